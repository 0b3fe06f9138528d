import Derived.Test.YtaffhdhamfilpaaSpec
import Derived.Test.YtaffhdhamfilpaaPLb
import Derived.Test.YtaffhdhamfilpaaW0
set_option linter.all false
namespace Go.Sa
open Go Go.Eng Go.Proofs
set_option maxRecDepth 100000
set_option maxHeartbeats 4000000
/-! ### loop.example/g00038/spec.l21Name -/
abbrev sl_spec_l21Name : SlotT := [(0, ([0, 3], [2]))]
abbrev J_spec_l21Name : JT := jn [(6, [(20, .b)])] [] []
noncomputable def O_spec_l21Name (N : Nat) : Orc E := noFn
theorem O_spec_l21Name_ok (N : Nat) : OrcOk (O_spec_l21Name N) := noFn_ok
noncomputable def s_spec_l21Name_0 (N : Nat) {R : Type} (s1 : ByteArray) (n : Int) (ag : Int → Option R)  (kR : Option R) (kN : Option R) : Option R :=
  (cond (decide ((n < (4 : Int))))
  (oK (cond ((decide (((0 : Int) ≤ n))) && (decide ((n < (((ByteArray.size s1) : Nat) : Int)))))
      (cond (decide (((Go.Eng.bt s1 (Int.toNat n)) < (65 : Int))))
        (some true)
        (cond ((decide (((0 : Int) ≤ n))) && (decide ((n < (((ByteArray.size s1) : Nat) : Int)))))
          (some (decide (((Go.Eng.bt s1 (Int.toNat n)) > (90 : Int)))))
          none))
      none) fun j =>
    (cond j
    kR
    (ag (IntKind.wrap IntKind.i64 (n + (1 : Int))))))
  kN)
noncomputable def l_spec_l21Name_0 (N : Nat) {R : Type} (s1 : ByteArray) (kR : Option R) (kN : Option R) : Nat → Int → Option R
  | 0, _ => none
  | f + 1, n => s_spec_l21Name_0 N s1 n (fun n => l_spec_l21Name_0 N s1 kR kN f n)  kR kN
noncomputable def c_spec_l21Name_0 (N : Nat) {R : Type} (s1 : ByteArray) (n : Int) (kR : Option R) (kN : Option R) : Option R := l_spec_l21Name_0 N s1 kR kN N n
theorem se_spec_l21Name_0 (N : Nat) {R : Type} (s1 : ByteArray) (n : Int) (AG : List (Option AV) → Hp E → Option R) (KL : Ex → List (Option AV) → Hp E → Option R) :
    iterStep (E := E) (O_spec_l21Name N) (fun {R} => LI (noIt) 0 21 sl_spec_l21Name (R := R)) J_spec_l21Name 0 21 0 [0, 3] [2] (body Go.Proofs.Try.f109 0) AG KL [(some (AV.sc (SV.str s1))), (some (AV.sc (SV.int IntKind.i64 n)))] [] =
      s_spec_l21Name_0 N s1 n (fun n => AG [(some (AV.sc (SV.str s1))), (some (AV.sc (SV.int IntKind.i64 n)))] [])  (KL Ex.ret [(some (AV.sc (SV.bool false)))] []) (KL Ex.normal [none] []) := by kernel_rfl
theorem le_spec_l21Name_0 (N : Nat) {R : Type} (s1 : ByteArray) (KL : Ex → List (Option AV) → Hp E → Option R) : ∀ (f : Nat), ∀ (n : Int), iterK (E := E) (O_spec_l21Name N) (fun {R} => LI (noIt) 0 21 sl_spec_l21Name (R := R)) J_spec_l21Name 0 21 0 [0, 3] [2] (body Go.Proofs.Try.f109 0) f [(some (AV.sc (SV.str s1))), (some (AV.sc (SV.int IntKind.i64 n)))] [] KL = l_spec_l21Name_0 N s1 (KL Ex.ret [(some (AV.sc (SV.bool false)))] []) (KL Ex.normal [none] []) f n := by
  intro f
  induction f with
  | zero => intros; rfl
  | succ f ih =>
    intro n
    rw [iterK_succ, se_spec_l21Name_0]
    exact (congrArg (fun z0 => s_spec_l21Name_0 N s1 n z0 (KL Ex.ret [(some (AV.sc (SV.bool false)))] []) (KL Ex.normal [none] [])) (funext fun n => ih n))
noncomputable def i_spec_l21Name_0 (N : Nat) {R : Type} (vs : List (Option AV)) (H : Hp E) (KL : Ex → List (Option AV) → Hp E → Option R) : Option R :=
  match vs, H with
  | [(some (AV.sc (SV.str s1))), (some (AV.sc (SV.int IntKind.i64 n)))], [] => c_spec_l21Name_0 N s1 n (KL Ex.ret [(some (AV.sc (SV.bool false)))] []) (KL Ex.normal [none] [])
  | _, _ => none
noncomputable def IT_spec_l21Name_0 (N : Nat) : Its E := addIt 0 (i_spec_l21Name_0 N) (noIt)
theorem IT_spec_l21Name_0_ok (N : Nat) : ItOk (IT_spec_l21Name_0 N) 0 21 sl_spec_l21Name (lsB Go.Proofs.Try.f109 [0]) :=
  addItB_ok (inner := []) ok (O_spec_l21Name_ok N) (jn_ok _ _ _) (noIt_ok) rfl (by kernel_rfl) rfl fun vs H KL r h => by
    unfold i_spec_l21Name_0 at h
    split at h
    · exact ⟨_, (le_spec_l21Name_0 N _ KL N _).trans h⟩
    · cases h
noncomputable def g_spec_l21Name (N : Nat) {R : Type} (s : ByteArray) (k : Bool → Option R) : Option R :=
  (cond ((((ByteArray.size s) : Nat) : Int) != (4 : Int))
  (k false)
  (c_spec_l21Name_0 N s (0 : Int) (
    (k false)) (
    (k true))))
theorem e_spec_l21Name (N : Nat) {R : Type} (s : ByteArray) (K : AV → Hp E → Option R) :
    runFnI (E := E) (O_spec_l21Name N) (IT_spec_l21Name_0 N) sl_spec_l21Name J_spec_l21Name Go.Proofs.Try.f109 [(AV.sc (SV.str s))] [] K =
      g_spec_l21Name N s (fun b => K (AV.sc (SV.bool b)) []) := by kernel_rfl
noncomputable def o_spec_l21Name (N : Nat) {R : Type} (args : List AV) (H : Hp E) (K : AV → Hp E → Option R) : Option R :=
  match args, H with
  | [(AV.sc (SV.str s))], [] => g_spec_l21Name N s (fun b => K (AV.sc (SV.bool b)) [])
  | _, _ => none
theorem o_spec_l21Name_ok (N : Nat) : FnOk E 109 (o_spec_l21Name N) := by
  intro R args H K r h
  unfold o_spec_l21Name at h
  dsimp only at h
  split at h
  · exact fnB_ok (ids := [0]) (top := [0]) ok (O_spec_l21Name_ok N) (jn_ok _ _ _) Go.Proofs.Try.func109 (by kernel_rfl) (IT := IT_spec_l21Name_0 N) (sl := sl_spec_l21Name) (J := J_spec_l21Name) (K := K) (H := []) (IT_spec_l21Name_0_ok N) (by kernel_rfl) rfl ((e_spec_l21Name N _ K).trans h)
  · cases h
/-! ### loop.example/g00038/spec.l21Bytes -/
abbrev sl_spec_l21Bytes : SlotT := [(0, ([0, 3, 4], [3]))]
abbrev J_spec_l21Bytes : JT := jn [] [] []
noncomputable def O_spec_l21Bytes (N : Nat) : Orc E := noFn
theorem O_spec_l21Bytes_ok (N : Nat) : OrcOk (O_spec_l21Bytes N) := noFn_ok
noncomputable def s_spec_l21Bytes_0 (N : Nat) {R : Type} (s1 : ByteArray) (n : Int) (n1 : Int) (ag : Int → Int → Option R)  (kN : Int → Option R) : Option R :=
  (cond (decide ((n1 < (((ByteArray.size s1) : Nat) : Int))))
  (cond ((decide (((0 : Int) ≤ n1))) && (decide ((n1 < (((ByteArray.size s1) : Nat) : Int)))))
    (ag (IntKind.wrap IntKind.i64 (n + (IntKind.wrap IntKind.i64 (Go.Eng.bt s1 (Int.toNat n1))))) (IntKind.wrap IntKind.i64 (n1 + (1 : Int))))
    none)
  (kN n))
noncomputable def l_spec_l21Bytes_0 (N : Nat) {R : Type} (s1 : ByteArray) (kN : Int → Option R) : Nat → Int → Int → Option R
  | 0, _, _ => none
  | f + 1, n, n1 => s_spec_l21Bytes_0 N s1 n n1 (fun n n1 => l_spec_l21Bytes_0 N s1 kN f n n1)  kN
noncomputable def c_spec_l21Bytes_0 (N : Nat) {R : Type} (s1 : ByteArray) (n : Int) (n1 : Int) (kN : Int → Option R) : Option R := l_spec_l21Bytes_0 N s1 kN N n n1
theorem se_spec_l21Bytes_0 (N : Nat) {R : Type} (s1 : ByteArray) (n : Int) (n1 : Int) (AG : List (Option AV) → Hp E → Option R) (KL : Ex → List (Option AV) → Hp E → Option R) :
    iterStep (E := E) (O_spec_l21Bytes N) (fun {R} => LI (noIt) 0 18 sl_spec_l21Bytes (R := R)) J_spec_l21Bytes 0 18 0 [0, 3, 4] [3] (body Go.Proofs.Try.f110 0) AG KL [(some (AV.sc (SV.str s1))), (some (AV.sc (SV.int IntKind.i64 n))), (some (AV.sc (SV.int IntKind.i64 n1)))] [] =
      s_spec_l21Bytes_0 N s1 n n1 (fun n n1 => AG [(some (AV.sc (SV.str s1))), (some (AV.sc (SV.int IntKind.i64 n))), (some (AV.sc (SV.int IntKind.i64 n1)))] [])  (fun n4 => KL Ex.normal [(some (AV.sc (SV.int IntKind.i64 n4)))] []) := by kernel_rfl
theorem le_spec_l21Bytes_0 (N : Nat) {R : Type} (s1 : ByteArray) (KL : Ex → List (Option AV) → Hp E → Option R) : ∀ (f : Nat), ∀ (n : Int) (n1 : Int), iterK (E := E) (O_spec_l21Bytes N) (fun {R} => LI (noIt) 0 18 sl_spec_l21Bytes (R := R)) J_spec_l21Bytes 0 18 0 [0, 3, 4] [3] (body Go.Proofs.Try.f110 0) f [(some (AV.sc (SV.str s1))), (some (AV.sc (SV.int IntKind.i64 n))), (some (AV.sc (SV.int IntKind.i64 n1)))] [] KL = l_spec_l21Bytes_0 N s1 (fun n4 => KL Ex.normal [(some (AV.sc (SV.int IntKind.i64 n4)))] []) f n n1 := by
  intro f
  induction f with
  | zero => intros; rfl
  | succ f ih =>
    intro n n1
    rw [iterK_succ, se_spec_l21Bytes_0]
    exact (congrArg (fun z0 => s_spec_l21Bytes_0 N s1 n n1 z0 (fun n4 => KL Ex.normal [(some (AV.sc (SV.int IntKind.i64 n4)))] [])) (funext fun n => funext fun n1 => ih n n1))
noncomputable def i_spec_l21Bytes_0 (N : Nat) {R : Type} (vs : List (Option AV)) (H : Hp E) (KL : Ex → List (Option AV) → Hp E → Option R) : Option R :=
  match vs, H with
  | [(some (AV.sc (SV.str s1))), (some (AV.sc (SV.int IntKind.i64 n))), (some (AV.sc (SV.int IntKind.i64 n1)))], [] => c_spec_l21Bytes_0 N s1 n n1 (fun n5 => KL Ex.normal [(some (AV.sc (SV.int IntKind.i64 n5)))] [])
  | _, _ => none
noncomputable def IT_spec_l21Bytes_0 (N : Nat) : Its E := addIt 0 (i_spec_l21Bytes_0 N) (noIt)
theorem IT_spec_l21Bytes_0_ok (N : Nat) : ItOk (IT_spec_l21Bytes_0 N) 0 18 sl_spec_l21Bytes (lsB Go.Proofs.Try.f110 [0]) :=
  addItB_ok (inner := []) ok (O_spec_l21Bytes_ok N) (jn_ok _ _ _) (noIt_ok) rfl (by kernel_rfl) rfl fun vs H KL r h => by
    unfold i_spec_l21Bytes_0 at h
    split at h
    · exact ⟨_, (le_spec_l21Bytes_0 N _ KL N _ _).trans h⟩
    · cases h
noncomputable def g_spec_l21Bytes (N : Nat) {R : Type} (s : ByteArray) (k : Int → Option R) : Option R :=
  (c_spec_l21Bytes_0 N s (0 : Int) (0 : Int) fun n2 =>
  (k n2))
theorem e_spec_l21Bytes (N : Nat) {R : Type} (s : ByteArray) (K : AV → Hp E → Option R) :
    runFnI (E := E) (O_spec_l21Bytes N) (IT_spec_l21Bytes_0 N) sl_spec_l21Bytes J_spec_l21Bytes Go.Proofs.Try.f110 [(AV.sc (SV.str s))] [] K =
      g_spec_l21Bytes N s (fun n3 => K (AV.sc (SV.int IntKind.i64 n3)) []) := by kernel_rfl
noncomputable def o_spec_l21Bytes (N : Nat) {R : Type} (args : List AV) (H : Hp E) (K : AV → Hp E → Option R) : Option R :=
  match args, H with
  | [(AV.sc (SV.str s))], [] => g_spec_l21Bytes N s (fun n3 => K (AV.sc (SV.int IntKind.i64 n3)) [])
  | _, _ => none
theorem o_spec_l21Bytes_ok (N : Nat) : FnOk E 110 (o_spec_l21Bytes N) := by
  intro R args H K r h
  unfold o_spec_l21Bytes at h
  dsimp only at h
  split at h
  · exact fnB_ok (ids := [0]) (top := [0]) ok (O_spec_l21Bytes_ok N) (jn_ok _ _ _) Go.Proofs.Try.func110 (by kernel_rfl) (IT := IT_spec_l21Bytes_0 N) (sl := sl_spec_l21Bytes) (J := J_spec_l21Bytes) (K := K) (H := []) (IT_spec_l21Bytes_0_ok N) (by kernel_rfl) rfl ((e_spec_l21Bytes N _ K).trans h)
  · cases h
/-! ### loop.example/g00038/spec.l21Table -/
abbrev sl_spec_l21Table : SlotT := []
abbrev J_spec_l21Table : JT := jn [(1, [(30, .b)])] [] []
noncomputable def O_spec_l21Table (N : Nat) : Orc E := addFn 73 (o_spec_l01Mod N) (addFn 110 (o_spec_l21Bytes N) (addFn 31 (o_spec_PutWord N) (addFn 109 (o_spec_l21Name N) (noFn))))
noncomputable def pa_spec_l21Table__o_spec_l01Mod (N : Nat) (G_spec_l01Mod : ∀ {R : Type} (n : Int) (n1 : Int) (k : Int → Option R), Option R) {R : Type} (args : List AV) (H : Hp E) (K : AV → Hp E → Option R) : Option R :=
  match args, H with
  | [(AV.sc (SV.int IntKind.i64 n)), (AV.sc (SV.int IntKind.i64 n1))], [] => G_spec_l01Mod n n1 (fun n2 => K (AV.sc (SV.int IntKind.i64 n2)) [])
  | _, _ => none
noncomputable def pa_spec_l21Table__o_spec_l21Bytes (N : Nat) (G_spec_l21Bytes : ∀ {R : Type} (s : ByteArray) (k : Int → Option R), Option R) {R : Type} (args : List AV) (H : Hp E) (K : AV → Hp E → Option R) : Option R :=
  match args, H with
  | [(AV.sc (SV.str s))], [] => G_spec_l21Bytes s (fun n3 => K (AV.sc (SV.int IntKind.i64 n3)) [])
  | _, _ => none
noncomputable def pa_spec_l21Table__o_spec_PutWord (N : Nat) (G_spec_PutWord : ∀ {R : Type} (n : Int) (k : ByteArray → Option R), Option R) {R : Type} (args : List AV) (H : Hp E) (K : AV → Hp E → Option R) : Option R :=
  match args, H with
  | [(AV.sc (SV.int IntKind.i64 n))], [] => G_spec_PutWord n (fun s => K (AV.sc (SV.str s)) [])
  | _, _ => none
noncomputable def pa_spec_l21Table__o_spec_l21Name (N : Nat) (G_spec_l21Name : ∀ {R : Type} (s : ByteArray) (k : Bool → Option R), Option R) {R : Type} (args : List AV) (H : Hp E) (K : AV → Hp E → Option R) : Option R :=
  match args, H with
  | [(AV.sc (SV.str s))], [] => G_spec_l21Name s (fun b => K (AV.sc (SV.bool b)) [])
  | _, _ => none
noncomputable def OA_spec_l21Table (N : Nat) (G_spec_l01Mod : ∀ {R : Type} (n : Int) (n1 : Int) (k : Int → Option R), Option R) (G_spec_l21Bytes : ∀ {R : Type} (s : ByteArray) (k : Int → Option R), Option R) (G_spec_PutWord : ∀ {R : Type} (n : Int) (k : ByteArray → Option R), Option R) (G_spec_l21Name : ∀ {R : Type} (s : ByteArray) (k : Bool → Option R), Option R) : Orc E := addFn 73 (pa_spec_l21Table__o_spec_l01Mod N G_spec_l01Mod) (addFn 110 (pa_spec_l21Table__o_spec_l21Bytes N G_spec_l21Bytes) (addFn 31 (pa_spec_l21Table__o_spec_PutWord N G_spec_PutWord) (addFn 109 (pa_spec_l21Table__o_spec_l21Name N G_spec_l21Name) (noFn))))
theorem O_spec_l21Table_ok (N : Nat) : OrcOk (O_spec_l21Table N) := addFn_ok (o_spec_l01Mod_ok N) (addFn_ok (o_spec_l21Bytes_ok N) (addFn_ok (o_spec_PutWord_ok N) (addFn_ok (o_spec_l21Name_ok N) (noFn_ok))))
noncomputable def g_spec_l21Table (N : Nat) {R : Type} (s : ByteArray) (n : Int) (s1 : ByteArray) (k : ByteArray → Option R) : Option R :=
  (oK (g_spec_l21Name N s fun b =>
    (cond (!b)
    (some true)
    (cond (decide ((n < (0 : Int))))
      (some true)
      (cond (decide ((n > (255 : Int))))
        (some true)
        (cond (decide (((((ByteArray.size s1) : Nat) : Int) > (200 : Int))))
          (some true)
          (some ((Int.tmod (((ByteArray.size s1) : Nat) : Int) (4 : Int)) != (0 : Int)))))))) fun j =>
  (cond j
  (k (ByteArray.mk (List.toArray [])))
  (g_spec_PutWord N (IntKind.wrap IntKind.i64 ((IntKind.wrap IntKind.i64 ((IntKind.wrap IntKind.i64 ((((ByteArray.size s1) : Nat) : Int) + (8 : Int))) * (65536 : Int))) + (IntKind.wrap IntKind.i64 (n * (256 : Int))))) fun s2 =>
    (cond (Nat.ble ((ByteArray.size s) + (ByteArray.size s2)) 9223372036854775807)
    (cond (Nat.ble ((ByteArray.size (s ++ s2)) + (ByteArray.size s1)) 9223372036854775807)
      (g_spec_l21Bytes N ((s ++ s2) ++ s1) fun n1 =>
        (g_spec_l01Mod N (IntKind.wrap IntKind.i64 ((0 : Int) - n1)) (256 : Int) fun n2 =>
        (g_spec_PutWord N (IntKind.wrap IntKind.i64 ((IntKind.wrap IntKind.i64 ((IntKind.wrap IntKind.i64 ((IntKind.wrap IntKind.i64 ((((ByteArray.size s1) : Nat) : Int) + (8 : Int))) * (65536 : Int))) + (IntKind.wrap IntKind.i64 (n * (256 : Int))))) + n2)) fun s3 =>
        (cond (Nat.ble ((ByteArray.size s) + (ByteArray.size s3)) 9223372036854775807)
        (cond (Nat.ble ((ByteArray.size (s ++ s3)) + (ByteArray.size s1)) 9223372036854775807)
          (k ((s ++ s3) ++ s1))
          none)
        none))))
      none)
    none))))
noncomputable def ga_g_spec_l21Table (N : Nat) (G_spec_l01Mod : ∀ {R : Type} (n : Int) (n1 : Int) (k : Int → Option R), Option R) (G_spec_l21Bytes : ∀ {R : Type} (s : ByteArray) (k : Int → Option R), Option R) (G_spec_PutWord : ∀ {R : Type} (n : Int) (k : ByteArray → Option R), Option R) (G_spec_l21Name : ∀ {R : Type} (s : ByteArray) (k : Bool → Option R), Option R) {R : Type} (s : ByteArray) (n : Int) (s1 : ByteArray) (k : ByteArray → Option R) : Option R :=
  (oK (G_spec_l21Name s fun b =>
    (cond (!b)
    (some true)
    (cond (decide ((n < (0 : Int))))
      (some true)
      (cond (decide ((n > (255 : Int))))
        (some true)
        (cond (decide (((((ByteArray.size s1) : Nat) : Int) > (200 : Int))))
          (some true)
          (some ((Int.tmod (((ByteArray.size s1) : Nat) : Int) (4 : Int)) != (0 : Int)))))))) fun j =>
  (cond j
  (k (ByteArray.mk (List.toArray [])))
  (G_spec_PutWord (IntKind.wrap IntKind.i64 ((IntKind.wrap IntKind.i64 ((IntKind.wrap IntKind.i64 ((((ByteArray.size s1) : Nat) : Int) + (8 : Int))) * (65536 : Int))) + (IntKind.wrap IntKind.i64 (n * (256 : Int))))) fun s2 =>
    (cond (Nat.ble ((ByteArray.size s) + (ByteArray.size s2)) 9223372036854775807)
    (cond (Nat.ble ((ByteArray.size (s ++ s2)) + (ByteArray.size s1)) 9223372036854775807)
      (G_spec_l21Bytes ((s ++ s2) ++ s1) fun n1 =>
        (G_spec_l01Mod (IntKind.wrap IntKind.i64 ((0 : Int) - n1)) (256 : Int) fun n2 =>
        (G_spec_PutWord (IntKind.wrap IntKind.i64 ((IntKind.wrap IntKind.i64 ((IntKind.wrap IntKind.i64 ((IntKind.wrap IntKind.i64 ((((ByteArray.size s1) : Nat) : Int) + (8 : Int))) * (65536 : Int))) + (IntKind.wrap IntKind.i64 (n * (256 : Int))))) + n2)) fun s3 =>
        (cond (Nat.ble ((ByteArray.size s) + (ByteArray.size s3)) 9223372036854775807)
        (cond (Nat.ble ((ByteArray.size (s ++ s3)) + (ByteArray.size s1)) 9223372036854775807)
          (k ((s ++ s3) ++ s1))
          none)
        none))))
      none)
    none))))
theorem ea_e_spec_l21Table (N : Nat) (G_spec_l01Mod : ∀ {R : Type} (n : Int) (n1 : Int) (k : Int → Option R), Option R) (G_spec_l21Bytes : ∀ {R : Type} (s : ByteArray) (k : Int → Option R), Option R) (G_spec_PutWord : ∀ {R : Type} (n : Int) (k : ByteArray → Option R), Option R) (G_spec_l21Name : ∀ {R : Type} (s : ByteArray) (k : Bool → Option R), Option R) {R : Type} (s : ByteArray) (n : Int) (s1 : ByteArray) (K : AV → Hp E → Option R) :
    runFnI (E := E) (OA_spec_l21Table N G_spec_l01Mod G_spec_l21Bytes G_spec_PutWord G_spec_l21Name) (noIt) sl_spec_l21Table J_spec_l21Table Go.Proofs.Try.f84 [(AV.agg [(SV.str s), (SV.int IntKind.i64 n), (SV.str s1)])] [] K =
      ga_g_spec_l21Table N G_spec_l01Mod G_spec_l21Bytes G_spec_PutWord G_spec_l21Name s n s1 (fun s4 => K (AV.sc (SV.str s4)) []) := by kernel_rfl
theorem e_spec_l21Table (N : Nat) {R : Type} (s : ByteArray) (n : Int) (s1 : ByteArray) (K : AV → Hp E → Option R) :
    runFnI (E := E) (O_spec_l21Table N) (noIt) sl_spec_l21Table J_spec_l21Table Go.Proofs.Try.f84 [(AV.agg [(SV.str s), (SV.int IntKind.i64 n), (SV.str s1)])] [] K =
      g_spec_l21Table N s n s1 (fun s4 => K (AV.sc (SV.str s4)) []) := castPr (by kernel_rfl) (ea_e_spec_l21Table N (g_spec_l01Mod N) (g_spec_l21Bytes N) (g_spec_PutWord N) (g_spec_l21Name N) s n s1 K)
noncomputable def o_spec_l21Table (N : Nat) {R : Type} (args : List AV) (H : Hp E) (K : AV → Hp E → Option R) : Option R :=
  match args, H with
  | [(AV.agg [(SV.str s), (SV.int IntKind.i64 n), (SV.str s1)])], [] => g_spec_l21Table N s n s1 (fun s4 => K (AV.sc (SV.str s4)) [])
  | _, _ => none
theorem o_spec_l21Table_ok (N : Nat) : FnOk E 84 (o_spec_l21Table N) := by
  intro R args H K r h
  unfold o_spec_l21Table at h
  dsimp only at h
  split at h
  · exact fnB_ok (ids := []) (top := []) ok (O_spec_l21Table_ok N) (jn_ok _ _ _) Go.Proofs.Try.func84 (by kernel_rfl) (IT := noIt) (sl := sl_spec_l21Table) (J := J_spec_l21Table) (K := K) (H := []) (noIt_ok) (by kernel_rfl) rfl ((e_spec_l21Table N _ _ _ K).trans h)
  · cases h
/-! ### loop.example/g00038/spec.l21Words -/
abbrev sl_spec_l21Words : SlotT := [(0, ([0, 3, 4], [3]))]
abbrev J_spec_l21Words : JT := jn [] [] []
noncomputable def O_spec_l21Words (N : Nat) : Orc E := addFn 52 (o_spec_l01Word N) (noFn)
theorem O_spec_l21Words_ok (N : Nat) : OrcOk (O_spec_l21Words N) := addFn_ok (o_spec_l01Word_ok N) (noFn_ok)
noncomputable def s_spec_l21Words_0 (N : Nat) {R : Type} (s1 : ByteArray) (n : Int) (n1 : Int) (ag : Int → Int → Option R)  (kN : Int → Option R) : Option R :=
  (cond (decide (((IntKind.wrap IntKind.i64 (n1 + (4 : Int))) ≤ (((ByteArray.size s1) : Nat) : Int))))
  (g_spec_l01Word N s1 n1 fun n2 =>
    (ag (IntKind.wrap IntKind.i64 (n + n2)) (IntKind.wrap IntKind.i64 (n1 + (4 : Int)))))
  (kN n))
noncomputable def l_spec_l21Words_0 (N : Nat) {R : Type} (s1 : ByteArray) (kN : Int → Option R) : Nat → Int → Int → Option R
  | 0, _, _ => none
  | f + 1, n, n1 => s_spec_l21Words_0 N s1 n n1 (fun n n1 => l_spec_l21Words_0 N s1 kN f n n1)  kN
noncomputable def c_spec_l21Words_0 (N : Nat) {R : Type} (s1 : ByteArray) (n : Int) (n1 : Int) (kN : Int → Option R) : Option R := l_spec_l21Words_0 N s1 kN N n n1
theorem se_spec_l21Words_0 (N : Nat) {R : Type} (s1 : ByteArray) (n : Int) (n1 : Int) (AG : List (Option AV) → Hp E → Option R) (KL : Ex → List (Option AV) → Hp E → Option R) :
    iterStep (E := E) (O_spec_l21Words N) (fun {R} => LI (noIt) 0 18 sl_spec_l21Words (R := R)) J_spec_l21Words 0 18 0 [0, 3, 4] [3] (body Go.Proofs.Try.f85 0) AG KL [(some (AV.sc (SV.str s1))), (some (AV.sc (SV.int IntKind.i64 n))), (some (AV.sc (SV.int IntKind.i64 n1)))] [] =
      s_spec_l21Words_0 N s1 n n1 (fun n n1 => AG [(some (AV.sc (SV.str s1))), (some (AV.sc (SV.int IntKind.i64 n))), (some (AV.sc (SV.int IntKind.i64 n1)))] [])  (fun n5 => KL Ex.normal [(some (AV.sc (SV.int IntKind.i64 n5)))] []) := by kernel_rfl
theorem le_spec_l21Words_0 (N : Nat) {R : Type} (s1 : ByteArray) (KL : Ex → List (Option AV) → Hp E → Option R) : ∀ (f : Nat), ∀ (n : Int) (n1 : Int), iterK (E := E) (O_spec_l21Words N) (fun {R} => LI (noIt) 0 18 sl_spec_l21Words (R := R)) J_spec_l21Words 0 18 0 [0, 3, 4] [3] (body Go.Proofs.Try.f85 0) f [(some (AV.sc (SV.str s1))), (some (AV.sc (SV.int IntKind.i64 n))), (some (AV.sc (SV.int IntKind.i64 n1)))] [] KL = l_spec_l21Words_0 N s1 (fun n5 => KL Ex.normal [(some (AV.sc (SV.int IntKind.i64 n5)))] []) f n n1 := by
  intro f
  induction f with
  | zero => intros; rfl
  | succ f ih =>
    intro n n1
    rw [iterK_succ, se_spec_l21Words_0]
    exact (congrArg (fun z0 => s_spec_l21Words_0 N s1 n n1 z0 (fun n5 => KL Ex.normal [(some (AV.sc (SV.int IntKind.i64 n5)))] [])) (funext fun n => funext fun n1 => ih n n1))
noncomputable def i_spec_l21Words_0 (N : Nat) {R : Type} (vs : List (Option AV)) (H : Hp E) (KL : Ex → List (Option AV) → Hp E → Option R) : Option R :=
  match vs, H with
  | [(some (AV.sc (SV.str s1))), (some (AV.sc (SV.int IntKind.i64 n))), (some (AV.sc (SV.int IntKind.i64 n1)))], [] => c_spec_l21Words_0 N s1 n n1 (fun n6 => KL Ex.normal [(some (AV.sc (SV.int IntKind.i64 n6)))] [])
  | _, _ => none
noncomputable def IT_spec_l21Words_0 (N : Nat) : Its E := addIt 0 (i_spec_l21Words_0 N) (noIt)
theorem IT_spec_l21Words_0_ok (N : Nat) : ItOk (IT_spec_l21Words_0 N) 0 18 sl_spec_l21Words (lsB Go.Proofs.Try.f85 [0]) :=
  addItB_ok (inner := []) ok (O_spec_l21Words_ok N) (jn_ok _ _ _) (noIt_ok) rfl (by kernel_rfl) rfl fun vs H KL r h => by
    unfold i_spec_l21Words_0 at h
    split at h
    · exact ⟨_, (le_spec_l21Words_0 N _ KL N _ _).trans h⟩
    · cases h
noncomputable def g_spec_l21Words (N : Nat) {R : Type} (s : ByteArray) (k : Int → Option R) : Option R :=
  (c_spec_l21Words_0 N s (0 : Int) (0 : Int) fun n3 =>
  (k n3))
theorem e_spec_l21Words (N : Nat) {R : Type} (s : ByteArray) (K : AV → Hp E → Option R) :
    runFnI (E := E) (O_spec_l21Words N) (IT_spec_l21Words_0 N) sl_spec_l21Words J_spec_l21Words Go.Proofs.Try.f85 [(AV.sc (SV.str s))] [] K =
      g_spec_l21Words N s (fun n4 => K (AV.sc (SV.int IntKind.i64 n4)) []) := by kernel_rfl
noncomputable def o_spec_l21Words (N : Nat) {R : Type} (args : List AV) (H : Hp E) (K : AV → Hp E → Option R) : Option R :=
  match args, H with
  | [(AV.sc (SV.str s))], [] => g_spec_l21Words N s (fun n4 => K (AV.sc (SV.int IntKind.i64 n4)) [])
  | _, _ => none
theorem o_spec_l21Words_ok (N : Nat) : FnOk E 85 (o_spec_l21Words N) := by
  intro R args H K r h
  unfold o_spec_l21Words at h
  dsimp only at h
  split at h
  · exact fnB_ok (ids := [0]) (top := [0]) ok (O_spec_l21Words_ok N) (jn_ok _ _ _) Go.Proofs.Try.func85 (by kernel_rfl) (IT := IT_spec_l21Words_0 N) (sl := sl_spec_l21Words) (J := J_spec_l21Words) (K := K) (H := []) (IT_spec_l21Words_0_ok N) (by kernel_rfl) rfl ((e_spec_l21Words N _ K).trans h)
  · cases h
/-! ### loop.example/g00038/spec.PutTables -/
abbrev sl_spec_PutTables_w : SlotT := [(0, ([0, 1, 2, 7, 8, 9], [0, 1, 6, 7, 8]))]
abbrev J_spec_PutTables_w : JT := jn [(1, [(33, .b)])] [] []
noncomputable def O_spec_PutTables_w (N : Nat) : Orc E := addFn 53 (o_spec_l10In N) (addFn 85 (o_spec_l21Words N) (addFn 84 (o_spec_l21Table N) (addFn 31 (o_spec_PutWord N) (addFn 67 (o_spec_MemFault N) (noFn)))))
noncomputable def pa_spec_PutTables_w__o_spec_l10In (N : Nat) (G_spec_l10In : ∀ {R : Type} (s : ByteArray) (n : Int) (n1 : Int) (k : Bool → Option R), Option R) {R : Type} (args : List AV) (H : Hp E) (K : AV → Hp E → Option R) : Option R :=
  match args, H with
  | [(AV.sc (SV.str s)), (AV.sc (SV.int IntKind.i64 n)), (AV.sc (SV.int IntKind.i64 n1))], [] => G_spec_l10In s n n1 (fun b => K (AV.sc (SV.bool b)) [])
  | _, _ => none
noncomputable def pa_spec_PutTables_w__o_spec_l21Words (N : Nat) (G_spec_l21Words : ∀ {R : Type} (s : ByteArray) (k : Int → Option R), Option R) {R : Type} (args : List AV) (H : Hp E) (K : AV → Hp E → Option R) : Option R :=
  match args, H with
  | [(AV.sc (SV.str s))], [] => G_spec_l21Words s (fun n4 => K (AV.sc (SV.int IntKind.i64 n4)) [])
  | _, _ => none
noncomputable def pa_spec_PutTables_w__o_spec_l21Table (N : Nat) (G_spec_l21Table : ∀ {R : Type} (s : ByteArray) (n : Int) (s1 : ByteArray) (k : ByteArray → Option R), Option R) {R : Type} (args : List AV) (H : Hp E) (K : AV → Hp E → Option R) : Option R :=
  match args, H with
  | [(AV.agg [(SV.str s), (SV.int IntKind.i64 n), (SV.str s1)])], [] => G_spec_l21Table s n s1 (fun s4 => K (AV.sc (SV.str s4)) [])
  | _, _ => none
noncomputable def pa_spec_PutTables_w__o_spec_PutWord (N : Nat) (G_spec_PutWord : ∀ {R : Type} (n : Int) (k : ByteArray → Option R), Option R) {R : Type} (args : List AV) (H : Hp E) (K : AV → Hp E → Option R) : Option R :=
  match args, H with
  | [(AV.sc (SV.int IntKind.i64 n))], [] => G_spec_PutWord n (fun s => K (AV.sc (SV.str s)) [])
  | _, _ => none
noncomputable def pa_spec_PutTables_w__o_spec_MemFault (N : Nat) (G_spec_MemFault : ∀ {R : Type} (s : ByteArray) (k : Int → Option R), Option R) {R : Type} (args : List AV) (H : Hp E) (K : AV → Hp E → Option R) : Option R :=
  match args, H with
  | [(AV.sc (SV.str s))], [] => G_spec_MemFault s (fun n => K (AV.sc (SV.int IntKind.i64 n)) [])
  | _, _ => none
noncomputable def OA_spec_PutTables_w (N : Nat) (G_spec_l10In : ∀ {R : Type} (s : ByteArray) (n : Int) (n1 : Int) (k : Bool → Option R), Option R) (G_spec_l21Words : ∀ {R : Type} (s : ByteArray) (k : Int → Option R), Option R) (G_spec_l21Table : ∀ {R : Type} (s : ByteArray) (n : Int) (s1 : ByteArray) (k : ByteArray → Option R), Option R) (G_spec_PutWord : ∀ {R : Type} (n : Int) (k : ByteArray → Option R), Option R) (G_spec_MemFault : ∀ {R : Type} (s : ByteArray) (k : Int → Option R), Option R) : Orc E := addFn 53 (pa_spec_PutTables_w__o_spec_l10In N G_spec_l10In) (addFn 85 (pa_spec_PutTables_w__o_spec_l21Words N G_spec_l21Words) (addFn 84 (pa_spec_PutTables_w__o_spec_l21Table N G_spec_l21Table) (addFn 31 (pa_spec_PutTables_w__o_spec_PutWord N G_spec_PutWord) (addFn 67 (pa_spec_PutTables_w__o_spec_MemFault N G_spec_MemFault) (noFn)))))
theorem O_spec_PutTables_w_ok (N : Nat) : OrcOk (O_spec_PutTables_w N) := addFn_ok (o_spec_l10In_ok N) (addFn_ok (o_spec_l21Words_ok N) (addFn_ok (o_spec_l21Table_ok N) (addFn_ok (o_spec_PutWord_ok N) (addFn_ok (o_spec_MemFault_ok N) (noFn_ok)))))
noncomputable def s_spec_PutTables_w_0 (N : Nat) {R : Type} (s2 : ByteArray) (n2 : Int) (b1 : Bool) (l1 : List FirmTable) (s3 : ByteArray) (s4 : ByteArray) (n3 : Int) (ag : ByteArray → ByteArray → Int → Option R)  (kR : ByteArray → ByteArray → Option R) (kN : ByteArray → ByteArray → Option R) : Option R :=
  (cond (decide ((n3 < (((List.length l1) : Nat) : Int))))
  (cond ((decide (((0 : Int) ≤ n3))) && (decide ((n3 < (((List.length l1) : Nat) : Int)))))
    (elemK l1 (Int.toNat n3) fun x =>
      (g_spec_l21Table N (FirmTable.fName x) (FirmTable.fRev x) (FirmTable.fBody x) fun s5 =>
      (cond (decide ((s5 = (ByteArray.mk (List.toArray [])))))
      (kR s3 s4)
      (g_spec_PutWord N (IntKind.wrap IntKind.i64 ((IntKind.wrap IntKind.i64 ((IntKind.wrap IntKind.i64 (n2 + (12 : Int))) + (IntKind.wrap IntKind.i64 ((4 : Int) * (((List.length l1) : Nat) : Int))))) + (((ByteArray.size s4) : Nat) : Int))) fun s6 =>
        (cond (Nat.ble ((ByteArray.size s3) + (ByteArray.size s6)) 9223372036854775807)
        (cond (Nat.ble ((ByteArray.size s4) + (ByteArray.size s5)) 9223372036854775807)
          (ag (s3 ++ s6) (s4 ++ s5) (IntKind.wrap IntKind.i64 (n3 + (1 : Int))))
          none)
        none)))))
    none)
  (kN s3 s4))
noncomputable def ga_s_spec_PutTables_w_0 (N : Nat) (G_spec_l10In : ∀ {R : Type} (s : ByteArray) (n : Int) (n1 : Int) (k : Bool → Option R), Option R) (G_spec_l21Words : ∀ {R : Type} (s : ByteArray) (k : Int → Option R), Option R) (G_spec_l21Table : ∀ {R : Type} (s : ByteArray) (n : Int) (s1 : ByteArray) (k : ByteArray → Option R), Option R) (G_spec_PutWord : ∀ {R : Type} (n : Int) (k : ByteArray → Option R), Option R) (G_spec_MemFault : ∀ {R : Type} (s : ByteArray) (k : Int → Option R), Option R) {R : Type} (s2 : ByteArray) (n2 : Int) (b1 : Bool) (l1 : List FirmTable) (s3 : ByteArray) (s4 : ByteArray) (n3 : Int) (ag : ByteArray → ByteArray → Int → Option R)  (kR : ByteArray → ByteArray → Option R) (kN : ByteArray → ByteArray → Option R) : Option R :=
  (cond (decide ((n3 < (((List.length l1) : Nat) : Int))))
  (cond ((decide (((0 : Int) ≤ n3))) && (decide ((n3 < (((List.length l1) : Nat) : Int)))))
    (elemK l1 (Int.toNat n3) fun x =>
      (G_spec_l21Table (FirmTable.fName x) (FirmTable.fRev x) (FirmTable.fBody x) fun s5 =>
      (cond (decide ((s5 = (ByteArray.mk (List.toArray [])))))
      (kR s3 s4)
      (G_spec_PutWord (IntKind.wrap IntKind.i64 ((IntKind.wrap IntKind.i64 ((IntKind.wrap IntKind.i64 (n2 + (12 : Int))) + (IntKind.wrap IntKind.i64 ((4 : Int) * (((List.length l1) : Nat) : Int))))) + (((ByteArray.size s4) : Nat) : Int))) fun s6 =>
        (cond (Nat.ble ((ByteArray.size s3) + (ByteArray.size s6)) 9223372036854775807)
        (cond (Nat.ble ((ByteArray.size s4) + (ByteArray.size s5)) 9223372036854775807)
          (ag (s3 ++ s6) (s4 ++ s5) (IntKind.wrap IntKind.i64 (n3 + (1 : Int))))
          none)
        none)))))
    none)
  (kN s3 s4))
noncomputable def l_spec_PutTables_w_0 (N : Nat) {R : Type} (s2 : ByteArray) (n2 : Int) (b1 : Bool) (l1 : List FirmTable) (kR : ByteArray → ByteArray → Option R) (kN : ByteArray → ByteArray → Option R) : Nat → ByteArray → ByteArray → Int → Option R
  | 0, _, _, _ => none
  | f + 1, s3, s4, n3 => s_spec_PutTables_w_0 N s2 n2 b1 l1 s3 s4 n3 (fun s3 s4 n3 => l_spec_PutTables_w_0 N s2 n2 b1 l1 kR kN f s3 s4 n3)  kR kN
noncomputable def c_spec_PutTables_w_0 (N : Nat) {R : Type} (s2 : ByteArray) (n2 : Int) (b1 : Bool) (l1 : List FirmTable) (s3 : ByteArray) (s4 : ByteArray) (n3 : Int) (kR : ByteArray → ByteArray → Option R) (kN : ByteArray → ByteArray → Option R) : Option R := l_spec_PutTables_w_0 N s2 n2 b1 l1 kR kN N s3 s4 n3
theorem ea_se_spec_PutTables_w_0 (N : Nat) (G_spec_l10In : ∀ {R : Type} (s : ByteArray) (n : Int) (n1 : Int) (k : Bool → Option R), Option R) (G_spec_l21Words : ∀ {R : Type} (s : ByteArray) (k : Int → Option R), Option R) (G_spec_l21Table : ∀ {R : Type} (s : ByteArray) (n : Int) (s1 : ByteArray) (k : ByteArray → Option R), Option R) (G_spec_PutWord : ∀ {R : Type} (n : Int) (k : ByteArray → Option R), Option R) (G_spec_MemFault : ∀ {R : Type} (s : ByteArray) (k : Int → Option R), Option R) {R : Type} (s2 : ByteArray) (n2 : Int) (b1 : Bool) (l1 : List FirmTable) (s3 : ByteArray) (s4 : ByteArray) (n3 : Int) (AG : List (Option AV) → Hp E → Option R) (KL : Ex → List (Option AV) → Hp E → Option R) :
    iterStep (E := E) (OA_spec_PutTables_w N G_spec_l10In G_spec_l21Words G_spec_l21Table G_spec_PutWord G_spec_MemFault) (fun {R} => LI (noIt) 1 98 sl_spec_PutTables_w (R := R)) J_spec_PutTables_w 1 98 0 [0, 1, 2, 7, 8, 9] [0, 1, 6, 7, 8] (body Go.Proofs.Try.f54 0) AG KL [(some (AV.sc (SV.str s2))), (some (AV.sc (SV.int IntKind.i64 n2))), (some (AV.sc (SV.slc 0 none b1))), (some (AV.sc (SV.str s3))), (some (AV.sc (SV.str s4))), (some (AV.sc (SV.int IntKind.i64 n3)))] [(some (HE.mk false (HB.rows (B.iFirmTable l1))))] =
      ga_s_spec_PutTables_w_0 N G_spec_l10In G_spec_l21Words G_spec_l21Table G_spec_PutWord G_spec_MemFault s2 n2 b1 l1 s3 s4 n3 (fun s3 s4 n3 => AG [(some (AV.sc (SV.str s2))), (some (AV.sc (SV.int IntKind.i64 n2))), (some (AV.sc (SV.slc 0 none b1))), (some (AV.sc (SV.str s3))), (some (AV.sc (SV.str s4))), (some (AV.sc (SV.int IntKind.i64 n3)))] [(some (HE.mk false (HB.rows (B.iFirmTable l1))))])  (fun s13 s14 => KL Ex.ret [(some (AV.sc (SV.str s2))), (some (AV.sc (SV.int IntKind.i64 n2))), (some (AV.sc (SV.str (ByteArray.mk (List.toArray []))))), (some (AV.sc (SV.str s13))), (some (AV.sc (SV.str s14)))] [(some (HE.mk false (HB.rows (B.iFirmTable l1))))]) (fun s15 s16 => KL Ex.normal [(some (AV.sc (SV.str s2))), (some (AV.sc (SV.int IntKind.i64 n2))), none, (some (AV.sc (SV.str s15))), (some (AV.sc (SV.str s16)))] [(some (HE.mk false (HB.rows (B.iFirmTable l1))))]) := by kernel_rfl
theorem se_spec_PutTables_w_0 (N : Nat) {R : Type} (s2 : ByteArray) (n2 : Int) (b1 : Bool) (l1 : List FirmTable) (s3 : ByteArray) (s4 : ByteArray) (n3 : Int) (AG : List (Option AV) → Hp E → Option R) (KL : Ex → List (Option AV) → Hp E → Option R) :
    iterStep (E := E) (O_spec_PutTables_w N) (fun {R} => LI (noIt) 1 98 sl_spec_PutTables_w (R := R)) J_spec_PutTables_w 1 98 0 [0, 1, 2, 7, 8, 9] [0, 1, 6, 7, 8] (body Go.Proofs.Try.f54 0) AG KL [(some (AV.sc (SV.str s2))), (some (AV.sc (SV.int IntKind.i64 n2))), (some (AV.sc (SV.slc 0 none b1))), (some (AV.sc (SV.str s3))), (some (AV.sc (SV.str s4))), (some (AV.sc (SV.int IntKind.i64 n3)))] [(some (HE.mk false (HB.rows (B.iFirmTable l1))))] =
      s_spec_PutTables_w_0 N s2 n2 b1 l1 s3 s4 n3 (fun s3 s4 n3 => AG [(some (AV.sc (SV.str s2))), (some (AV.sc (SV.int IntKind.i64 n2))), (some (AV.sc (SV.slc 0 none b1))), (some (AV.sc (SV.str s3))), (some (AV.sc (SV.str s4))), (some (AV.sc (SV.int IntKind.i64 n3)))] [(some (HE.mk false (HB.rows (B.iFirmTable l1))))])  (fun s13 s14 => KL Ex.ret [(some (AV.sc (SV.str s2))), (some (AV.sc (SV.int IntKind.i64 n2))), (some (AV.sc (SV.str (ByteArray.mk (List.toArray []))))), (some (AV.sc (SV.str s13))), (some (AV.sc (SV.str s14)))] [(some (HE.mk false (HB.rows (B.iFirmTable l1))))]) (fun s15 s16 => KL Ex.normal [(some (AV.sc (SV.str s2))), (some (AV.sc (SV.int IntKind.i64 n2))), none, (some (AV.sc (SV.str s15))), (some (AV.sc (SV.str s16)))] [(some (HE.mk false (HB.rows (B.iFirmTable l1))))]) := castPr (by kernel_rfl) (ea_se_spec_PutTables_w_0 N (g_spec_l10In N) (g_spec_l21Words N) (g_spec_l21Table N) (g_spec_PutWord N) (g_spec_MemFault N) s2 n2 b1 l1 s3 s4 n3 AG KL)
theorem le_spec_PutTables_w_0 (N : Nat) {R : Type} (s2 : ByteArray) (n2 : Int) (b1 : Bool) (l1 : List FirmTable) (KL : Ex → List (Option AV) → Hp E → Option R) : ∀ (f : Nat), ∀ (s3 : ByteArray) (s4 : ByteArray) (n3 : Int), iterK (E := E) (O_spec_PutTables_w N) (fun {R} => LI (noIt) 1 98 sl_spec_PutTables_w (R := R)) J_spec_PutTables_w 1 98 0 [0, 1, 2, 7, 8, 9] [0, 1, 6, 7, 8] (body Go.Proofs.Try.f54 0) f [(some (AV.sc (SV.str s2))), (some (AV.sc (SV.int IntKind.i64 n2))), (some (AV.sc (SV.slc 0 none b1))), (some (AV.sc (SV.str s3))), (some (AV.sc (SV.str s4))), (some (AV.sc (SV.int IntKind.i64 n3)))] [(some (HE.mk false (HB.rows (B.iFirmTable l1))))] KL = l_spec_PutTables_w_0 N s2 n2 b1 l1 (fun s13 s14 => KL Ex.ret [(some (AV.sc (SV.str s2))), (some (AV.sc (SV.int IntKind.i64 n2))), (some (AV.sc (SV.str (ByteArray.mk (List.toArray []))))), (some (AV.sc (SV.str s13))), (some (AV.sc (SV.str s14)))] [(some (HE.mk false (HB.rows (B.iFirmTable l1))))]) (fun s15 s16 => KL Ex.normal [(some (AV.sc (SV.str s2))), (some (AV.sc (SV.int IntKind.i64 n2))), none, (some (AV.sc (SV.str s15))), (some (AV.sc (SV.str s16)))] [(some (HE.mk false (HB.rows (B.iFirmTable l1))))]) f s3 s4 n3 := by
  intro f
  induction f with
  | zero => intros; rfl
  | succ f ih =>
    intro s3 s4 n3
    rw [iterK_succ, se_spec_PutTables_w_0]
    exact (congrArg (fun z0 => s_spec_PutTables_w_0 N s2 n2 b1 l1 s3 s4 n3 z0 (fun s13 s14 => KL Ex.ret [(some (AV.sc (SV.str s2))), (some (AV.sc (SV.int IntKind.i64 n2))), (some (AV.sc (SV.str (ByteArray.mk (List.toArray []))))), (some (AV.sc (SV.str s13))), (some (AV.sc (SV.str s14)))] [(some (HE.mk false (HB.rows (B.iFirmTable l1))))]) (fun s15 s16 => KL Ex.normal [(some (AV.sc (SV.str s2))), (some (AV.sc (SV.int IntKind.i64 n2))), none, (some (AV.sc (SV.str s15))), (some (AV.sc (SV.str s16)))] [(some (HE.mk false (HB.rows (B.iFirmTable l1))))])) (funext fun s3 => funext fun s4 => funext fun n3 => ih s3 s4 n3))
noncomputable def i_spec_PutTables_w_0 (N : Nat) {R : Type} (vs : List (Option AV)) (H : Hp E) (KL : Ex → List (Option AV) → Hp E → Option R) : Option R :=
  match vs, H with
  | [(some (AV.sc (SV.str s2))), (some (AV.sc (SV.int IntKind.i64 n2))), (some (AV.sc (SV.slc 0 none b1))), (some (AV.sc (SV.str s3))), (some (AV.sc (SV.str s4))), (some (AV.sc (SV.int IntKind.i64 n3)))], [(some (HE.mk false (HB.rows (B.iFirmTable l1))))] => c_spec_PutTables_w_0 N s2 n2 b1 l1 s3 s4 n3 (fun s17 s18 => KL Ex.ret [(some (AV.sc (SV.str s2))), (some (AV.sc (SV.int IntKind.i64 n2))), (some (AV.sc (SV.str (ByteArray.mk (List.toArray []))))), (some (AV.sc (SV.str s17))), (some (AV.sc (SV.str s18)))] [(some (HE.mk false (HB.rows (B.iFirmTable l1))))]) (fun s19 s20 => KL Ex.normal [(some (AV.sc (SV.str s2))), (some (AV.sc (SV.int IntKind.i64 n2))), none, (some (AV.sc (SV.str s19))), (some (AV.sc (SV.str s20)))] [(some (HE.mk false (HB.rows (B.iFirmTable l1))))])
  | _, _ => none
noncomputable def IT_spec_PutTables_w_0 (N : Nat) : Its E := addIt 0 (i_spec_PutTables_w_0 N) (noIt)
theorem IT_spec_PutTables_w_0_ok (N : Nat) : ItOk (IT_spec_PutTables_w_0 N) 1 98 sl_spec_PutTables_w (lsB Go.Proofs.Try.f54 [0]) :=
  addItB_ok (inner := []) ok (O_spec_PutTables_w_ok N) (jn_ok _ _ _) (noIt_ok) rfl (by kernel_rfl) rfl fun vs H KL r h => by
    unfold i_spec_PutTables_w_0 at h
    split at h
    · exact ⟨_, (le_spec_PutTables_w_0 N _ _ _ _ KL N _ _ _).trans h⟩
    · cases h
noncomputable def g_spec_PutTables_w (N : Nat) {R : Type} (s : ByteArray) (n : Int) (b : Bool) (l : List FirmTable) (k : ByteArray → Option R) : Option R :=
  (oK (g_spec_MemFault N s fun n1 =>
    (cond (n1 != (0 : Int))
    (some true)
    (cond (decide ((n < (0 : Int))))
      (some true)
      (cond ((Int.tmod n (4 : Int)) != (0 : Int))
        (some true)
        (cond (decide ((n > (((ByteArray.size s) : Nat) : Int))))
          (some true)
          (some (decide (((((List.length l) : Nat) : Int) > (10 : Int)))))))))) fun j =>
  (cond j
  (k (ByteArray.mk (List.toArray [])))
  (g_spec_PutWord N (((List.length l) : Nat) : Int) fun s1 =>
    (cond (Nat.ble (4 + (ByteArray.size s1)) 9223372036854775807)
    (c_spec_PutTables_w_0 N s n b l ((ByteArray.mk (List.toArray [(70 : UInt8), (73 : UInt8), (82 : UInt8), (77 : UInt8)])) ++ s1) (ByteArray.mk (List.toArray [])) (0 : Int) (fun s7 s8 =>
      (k (ByteArray.mk (List.toArray [])))) (fun s9 s10 =>
      (g_spec_l21Words N s9 fun n4 =>
      (g_spec_PutWord N (IntKind.wrap IntKind.i64 ((0 : Int) - n4)) fun s11 =>
      (cond (Nat.ble ((ByteArray.size s9) + (ByteArray.size s11)) 9223372036854775807)
      (g_spec_l10In N s n (IntKind.wrap IntKind.i64 ((((ByteArray.size (s9 ++ s11)) : Nat) : Int) + (((ByteArray.size s10) : Nat) : Int))) fun b2 =>
        (cond (!b2)
        (k (ByteArray.mk (List.toArray [])))
        (cond ((decide (((0 : Int) ≤ n))) && (decide ((n ≤ (((ByteArray.size s) : Nat) : Int)))))
          (cond (Nat.ble ((ByteArray.size (ByteArray.extract s 0 (Int.toNat n))) + (ByteArray.size (s9 ++ s11))) 9223372036854775807)
            (cond (Nat.ble ((ByteArray.size ((ByteArray.extract s 0 (Int.toNat n)) ++ (s9 ++ s11))) + (ByteArray.size s10)) 9223372036854775807)
              (cond (((decide (((0 : Int) ≤ (IntKind.wrap IntKind.i64 (n + (IntKind.wrap IntKind.i64 ((((ByteArray.size (s9 ++ s11)) : Nat) : Int) + (((ByteArray.size s10) : Nat) : Int)))))))) && (decide (((IntKind.wrap IntKind.i64 (n + (IntKind.wrap IntKind.i64 ((((ByteArray.size (s9 ++ s11)) : Nat) : Int) + (((ByteArray.size s10) : Nat) : Int))))) ≤ (((ByteArray.size s) : Nat) : Int))))) && (decide (((((ByteArray.size s) : Nat) : Int) ≤ (((ByteArray.size s) : Nat) : Int)))))
                (cond (Nat.ble ((ByteArray.size (((ByteArray.extract s 0 (Int.toNat n)) ++ (s9 ++ s11)) ++ s10)) + (ByteArray.size (ByteArray.extract s (Int.toNat (IntKind.wrap IntKind.i64 (n + (IntKind.wrap IntKind.i64 ((((ByteArray.size (s9 ++ s11)) : Nat) : Int) + (((ByteArray.size s10) : Nat) : Int)))))) (Int.toNat (((ByteArray.size s) : Nat) : Int))))) 9223372036854775807)
                  (k ((((ByteArray.extract s 0 (Int.toNat n)) ++ (s9 ++ s11)) ++ s10) ++ (ByteArray.extract s (Int.toNat (IntKind.wrap IntKind.i64 (n + (IntKind.wrap IntKind.i64 ((((ByteArray.size (s9 ++ s11)) : Nat) : Int) + (((ByteArray.size s10) : Nat) : Int)))))) (Int.toNat (((ByteArray.size s) : Nat) : Int)))))
                  none)
                none)
              none)
            none)
          none)))
      none)))))
    none))))
noncomputable def ga_g_spec_PutTables_w (N : Nat) (G_spec_l10In : ∀ {R : Type} (s : ByteArray) (n : Int) (n1 : Int) (k : Bool → Option R), Option R) (G_spec_l21Words : ∀ {R : Type} (s : ByteArray) (k : Int → Option R), Option R) (G_spec_l21Table : ∀ {R : Type} (s : ByteArray) (n : Int) (s1 : ByteArray) (k : ByteArray → Option R), Option R) (G_spec_PutWord : ∀ {R : Type} (n : Int) (k : ByteArray → Option R), Option R) (G_spec_MemFault : ∀ {R : Type} (s : ByteArray) (k : Int → Option R), Option R) {R : Type} (s : ByteArray) (n : Int) (b : Bool) (l : List FirmTable) (k : ByteArray → Option R) : Option R :=
  (oK (G_spec_MemFault s fun n1 =>
    (cond (n1 != (0 : Int))
    (some true)
    (cond (decide ((n < (0 : Int))))
      (some true)
      (cond ((Int.tmod n (4 : Int)) != (0 : Int))
        (some true)
        (cond (decide ((n > (((ByteArray.size s) : Nat) : Int))))
          (some true)
          (some (decide (((((List.length l) : Nat) : Int) > (10 : Int)))))))))) fun j =>
  (cond j
  (k (ByteArray.mk (List.toArray [])))
  (G_spec_PutWord (((List.length l) : Nat) : Int) fun s1 =>
    (cond (Nat.ble (4 + (ByteArray.size s1)) 9223372036854775807)
    (c_spec_PutTables_w_0 N s n b l ((ByteArray.mk (List.toArray [(70 : UInt8), (73 : UInt8), (82 : UInt8), (77 : UInt8)])) ++ s1) (ByteArray.mk (List.toArray [])) (0 : Int) (fun s7 s8 =>
      (k (ByteArray.mk (List.toArray [])))) (fun s9 s10 =>
      (G_spec_l21Words s9 fun n4 =>
      (G_spec_PutWord (IntKind.wrap IntKind.i64 ((0 : Int) - n4)) fun s11 =>
      (cond (Nat.ble ((ByteArray.size s9) + (ByteArray.size s11)) 9223372036854775807)
      (G_spec_l10In s n (IntKind.wrap IntKind.i64 ((((ByteArray.size (s9 ++ s11)) : Nat) : Int) + (((ByteArray.size s10) : Nat) : Int))) fun b2 =>
        (cond (!b2)
        (k (ByteArray.mk (List.toArray [])))
        (cond ((decide (((0 : Int) ≤ n))) && (decide ((n ≤ (((ByteArray.size s) : Nat) : Int)))))
          (cond (Nat.ble ((ByteArray.size (ByteArray.extract s 0 (Int.toNat n))) + (ByteArray.size (s9 ++ s11))) 9223372036854775807)
            (cond (Nat.ble ((ByteArray.size ((ByteArray.extract s 0 (Int.toNat n)) ++ (s9 ++ s11))) + (ByteArray.size s10)) 9223372036854775807)
              (cond (((decide (((0 : Int) ≤ (IntKind.wrap IntKind.i64 (n + (IntKind.wrap IntKind.i64 ((((ByteArray.size (s9 ++ s11)) : Nat) : Int) + (((ByteArray.size s10) : Nat) : Int)))))))) && (decide (((IntKind.wrap IntKind.i64 (n + (IntKind.wrap IntKind.i64 ((((ByteArray.size (s9 ++ s11)) : Nat) : Int) + (((ByteArray.size s10) : Nat) : Int))))) ≤ (((ByteArray.size s) : Nat) : Int))))) && (decide (((((ByteArray.size s) : Nat) : Int) ≤ (((ByteArray.size s) : Nat) : Int)))))
                (cond (Nat.ble ((ByteArray.size (((ByteArray.extract s 0 (Int.toNat n)) ++ (s9 ++ s11)) ++ s10)) + (ByteArray.size (ByteArray.extract s (Int.toNat (IntKind.wrap IntKind.i64 (n + (IntKind.wrap IntKind.i64 ((((ByteArray.size (s9 ++ s11)) : Nat) : Int) + (((ByteArray.size s10) : Nat) : Int)))))) (Int.toNat (((ByteArray.size s) : Nat) : Int))))) 9223372036854775807)
                  (k ((((ByteArray.extract s 0 (Int.toNat n)) ++ (s9 ++ s11)) ++ s10) ++ (ByteArray.extract s (Int.toNat (IntKind.wrap IntKind.i64 (n + (IntKind.wrap IntKind.i64 ((((ByteArray.size (s9 ++ s11)) : Nat) : Int) + (((ByteArray.size s10) : Nat) : Int)))))) (Int.toNat (((ByteArray.size s) : Nat) : Int)))))
                  none)
                none)
              none)
            none)
          none)))
      none)))))
    none))))
theorem ea_e_spec_PutTables_w (N : Nat) (G_spec_l10In : ∀ {R : Type} (s : ByteArray) (n : Int) (n1 : Int) (k : Bool → Option R), Option R) (G_spec_l21Words : ∀ {R : Type} (s : ByteArray) (k : Int → Option R), Option R) (G_spec_l21Table : ∀ {R : Type} (s : ByteArray) (n : Int) (s1 : ByteArray) (k : ByteArray → Option R), Option R) (G_spec_PutWord : ∀ {R : Type} (n : Int) (k : ByteArray → Option R), Option R) (G_spec_MemFault : ∀ {R : Type} (s : ByteArray) (k : Int → Option R), Option R) {R : Type} (s : ByteArray) (n : Int) (b : Bool) (l : List FirmTable) (K : AV → Hp E → Option R) :
    runFnI (E := E) (OA_spec_PutTables_w N G_spec_l10In G_spec_l21Words G_spec_l21Table G_spec_PutWord G_spec_MemFault) (IT_spec_PutTables_w_0 N) sl_spec_PutTables_w J_spec_PutTables_w Go.Proofs.Try.f54 [(AV.sc (SV.str s)), (AV.sc (SV.int IntKind.i64 n)), (AV.sc (SV.slc 0 none b))] [(some (HE.mk false (HB.rows (B.iFirmTable l))))] K =
      ga_g_spec_PutTables_w N G_spec_l10In G_spec_l21Words G_spec_l21Table G_spec_PutWord G_spec_MemFault s n b l (fun s12 => K (AV.sc (SV.str s12)) [(some (HE.mk false (HB.rows (B.iFirmTable l))))]) := by kernel_rfl
theorem e_spec_PutTables_w (N : Nat) {R : Type} (s : ByteArray) (n : Int) (b : Bool) (l : List FirmTable) (K : AV → Hp E → Option R) :
    runFnI (E := E) (O_spec_PutTables_w N) (IT_spec_PutTables_w_0 N) sl_spec_PutTables_w J_spec_PutTables_w Go.Proofs.Try.f54 [(AV.sc (SV.str s)), (AV.sc (SV.int IntKind.i64 n)), (AV.sc (SV.slc 0 none b))] [(some (HE.mk false (HB.rows (B.iFirmTable l))))] K =
      g_spec_PutTables_w N s n b l (fun s12 => K (AV.sc (SV.str s12)) [(some (HE.mk false (HB.rows (B.iFirmTable l))))]) := castPr (by kernel_rfl) (ea_e_spec_PutTables_w N (g_spec_l10In N) (g_spec_l21Words N) (g_spec_l21Table N) (g_spec_PutWord N) (g_spec_MemFault N) s n b l K)
noncomputable def o_spec_PutTables_w (N : Nat) {R : Type} (args : List AV) (H : Hp E) (K : AV → Hp E → Option R) : Option R :=
  match args, H with
  | [(AV.sc (SV.str s)), (AV.sc (SV.int IntKind.i64 n)), (AV.sc (SV.slc 0 none b))], [(some (HE.mk false (HB.rows (B.iFirmTable l))))] => g_spec_PutTables_w N s n b l (fun s12 => K (AV.sc (SV.str s12)) [(some (HE.mk false (HB.rows (B.iFirmTable l))))])
  | _, _ => none
theorem o_spec_PutTables_w_ok (N : Nat) : FnOk E 54 (o_spec_PutTables_w N) := by
  intro R args H K r h
  unfold o_spec_PutTables_w at h
  dsimp only at h
  split at h
  · exact fnB_ok (ids := [0]) (top := [0]) ok (O_spec_PutTables_w_ok N) (jn_ok _ _ _) Go.Proofs.Try.func54 (by kernel_rfl) (IT := IT_spec_PutTables_w_0 N) (sl := sl_spec_PutTables_w) (J := J_spec_PutTables_w) (K := K) (H := [(some (HE.mk false (HB.rows (B.iFirmTable _))))]) (IT_spec_PutTables_w_0_ok N) (by kernel_rfl) rfl ((e_spec_PutTables_w N _ _ _ _ K).trans h)
  · cases h
/-! ### loop.example/g00038/spec.NewMachine -/
abbrev sl_spec_NewMachine : SlotT := []
abbrev J_spec_NewMachine : JT := jn [] [] []
noncomputable def O_spec_NewMachine (N : Nat) : Orc E := addFn 67 (o_spec_MemFault N) (noFn)
theorem O_spec_NewMachine_ok (N : Nat) : OrcOk (O_spec_NewMachine N) := addFn_ok (o_spec_MemFault_ok N) (noFn_ok)
noncomputable def g_spec_NewMachine (N : Nat) {R : Type} (s : ByteArray) (k : Bool → Int → Bool → Bool → ByteArray → (List Int) → (List Int) → (List Int) → Option R) : Option R :=
  (g_spec_MemFault N s fun n =>
  (cond (n != (0 : Int))
  (k true (0 : Int) true true (ByteArray.mk (List.toArray [])) [] [] [])
  (k false (1 : Int) false false s (List.replicate 16 (0 : Int)) (List.replicate 12 (0 : Int)) (List.replicate 16 (0 : Int)))))
theorem e_spec_NewMachine (N : Nat) {R : Type} (s : ByteArray) (K : AV → Hp E → Option R) :
    runFnI (E := E) (O_spec_NewMachine N) (noIt) sl_spec_NewMachine J_spec_NewMachine Go.Proofs.Try.f56 [(AV.sc (SV.str s))] [] K =
      g_spec_NewMachine N s (fun b n1 b1 b2 s1 l l1 l2 => K (AV.agg [(SV.int IntKind.i64 (0 : Int)), (SV.slc 0 none b), (SV.int IntKind.i64 n1), (SV.slc 1 none b1), (SV.slc 2 none b2), (SV.str s1), (SV.int IntKind.i64 (0 : Int)), (SV.int IntKind.i64 (0 : Int)), (SV.int IntKind.i64 (0 : Int)), (SV.slc 3 none true), (SV.slc 4 none true), (SV.int IntKind.i64 (0 : Int))]) [(some (HE.mk false (HB.rows (B.i64 l)))), (some (HE.mk false (HB.rows (B.i64 l1)))), (some (HE.mk false (HB.rows (B.i64 l2)))), (some (HE.mk false (HB.rows (B.iPortValue [])))), (some (HE.mk false (HB.rows (B.iPortValue []))))]) := by kernel_rfl
noncomputable def o_spec_NewMachine (N : Nat) {R : Type} (args : List AV) (H : Hp E) (K : AV → Hp E → Option R) : Option R :=
  match args, H with
  | [(AV.sc (SV.str s))], [] => g_spec_NewMachine N s (fun b n1 b1 b2 s1 l l1 l2 => K (AV.agg [(SV.int IntKind.i64 (0 : Int)), (SV.slc 0 none b), (SV.int IntKind.i64 n1), (SV.slc 1 none b1), (SV.slc 2 none b2), (SV.str s1), (SV.int IntKind.i64 (0 : Int)), (SV.int IntKind.i64 (0 : Int)), (SV.int IntKind.i64 (0 : Int)), (SV.slc 3 none true), (SV.slc 4 none true), (SV.int IntKind.i64 (0 : Int))]) [(some (HE.mk false (HB.rows (B.i64 l)))), (some (HE.mk false (HB.rows (B.i64 l1)))), (some (HE.mk false (HB.rows (B.i64 l2)))), (some (HE.mk false (HB.rows (B.iPortValue [])))), (some (HE.mk false (HB.rows (B.iPortValue []))))])
  | _, _ => none
theorem o_spec_NewMachine_ok (N : Nat) : FnOk E 56 (o_spec_NewMachine N) := by
  intro R args H K r h
  unfold o_spec_NewMachine at h
  dsimp only at h
  split at h
  · exact fnB_ok (ids := []) (top := []) ok (O_spec_NewMachine_ok N) (jn_ok _ _ _) Go.Proofs.Try.func56 (by kernel_rfl) (IT := noIt) (sl := sl_spec_NewMachine) (J := J_spec_NewMachine) (K := K) (H := []) (noIt_ok) (by kernel_rfl) rfl ((e_spec_NewMachine N _ K).trans h)
  · cases h
/-! ### loop.example/g00038/spec.l06Frame -/
abbrev sl_spec_l06Frame : SlotT := []
abbrev J_spec_l06Frame : JT := jn [] [] []
noncomputable def O_spec_l06Frame (N : Nat) : Orc E := noFn
theorem O_spec_l06Frame_ok (N : Nat) : OrcOk (O_spec_l06Frame N) := noFn_ok
noncomputable def g_spec_l06Frame (N : Nat) {R : Type} (s : ByteArray) (n : Int) (k : ByteArray → Option R) : Option R :=
  (cond (((decide (((0 : Int) ≤ (IntKind.wrap IntKind.i64 (n * (256 : Int)))))) && (decide (((IntKind.wrap IntKind.i64 (n * (256 : Int))) ≤ (IntKind.wrap IntKind.i64 ((IntKind.wrap IntKind.i64 (n + (1 : Int))) * (256 : Int))))))) && (decide (((IntKind.wrap IntKind.i64 ((IntKind.wrap IntKind.i64 (n + (1 : Int))) * (256 : Int))) ≤ (((ByteArray.size s) : Nat) : Int)))))
  (k (ByteArray.extract s (Int.toNat (IntKind.wrap IntKind.i64 (n * (256 : Int)))) (Int.toNat (IntKind.wrap IntKind.i64 ((IntKind.wrap IntKind.i64 (n + (1 : Int))) * (256 : Int))))))
  none)
theorem e_spec_l06Frame (N : Nat) {R : Type} (s : ByteArray) (n : Int) (K : AV → Hp E → Option R) :
    runFnI (E := E) (O_spec_l06Frame N) (noIt) sl_spec_l06Frame J_spec_l06Frame Go.Proofs.Try.f29 [(AV.sc (SV.str s)), (AV.sc (SV.int IntKind.i64 n))] [] K =
      g_spec_l06Frame N s n (fun s1 => K (AV.sc (SV.str s1)) []) := by kernel_rfl
noncomputable def o_spec_l06Frame (N : Nat) {R : Type} (args : List AV) (H : Hp E) (K : AV → Hp E → Option R) : Option R :=
  match args, H with
  | [(AV.sc (SV.str s)), (AV.sc (SV.int IntKind.i64 n))], [] => g_spec_l06Frame N s n (fun s1 => K (AV.sc (SV.str s1)) [])
  | _, _ => none
theorem o_spec_l06Frame_ok (N : Nat) : FnOk E 29 (o_spec_l06Frame N) := by
  intro R args H K r h
  unfold o_spec_l06Frame at h
  dsimp only at h
  split at h
  · exact fnB_ok (ids := []) (top := []) ok (O_spec_l06Frame_ok N) (jn_ok _ _ _) Go.Proofs.Try.func29 (by kernel_rfl) (IT := noIt) (sl := sl_spec_l06Frame) (J := J_spec_l06Frame) (K := K) (H := []) (noIt_ok) (by kernel_rfl) rfl ((e_spec_l06Frame N _ _ K).trans h)
  · cases h
/-! ### loop.example/g00038/spec.l01IsWord -/
abbrev sl_spec_l01IsWord : SlotT := []
abbrev J_spec_l01IsWord : JT := jn [(1, [(2, .b)])] [] []
noncomputable def O_spec_l01IsWord (N : Nat) : Orc E := noFn
theorem O_spec_l01IsWord_ok (N : Nat) : OrcOk (O_spec_l01IsWord N) := noFn_ok
noncomputable def g_spec_l01IsWord (N : Nat) {R : Type} (n : Int) (k : Bool → Option R) : Option R :=
  (oK (cond (decide ((n ≥ (0 : Int))))
    (some (decide ((n < (4294967296 : Int)))))
    (some false)) fun j =>
  (k j))
theorem e_spec_l01IsWord (N : Nat) {R : Type} (n : Int) (K : AV → Hp E → Option R) :
    runFnI (E := E) (O_spec_l01IsWord N) (noIt) sl_spec_l01IsWord J_spec_l01IsWord Go.Proofs.Try.f68 [(AV.sc (SV.int IntKind.i64 n))] [] K =
      g_spec_l01IsWord N n (fun b => K (AV.sc (SV.bool b)) []) := by kernel_rfl
noncomputable def o_spec_l01IsWord (N : Nat) {R : Type} (args : List AV) (H : Hp E) (K : AV → Hp E → Option R) : Option R :=
  match args, H with
  | [(AV.sc (SV.int IntKind.i64 n))], [] => g_spec_l01IsWord N n (fun b => K (AV.sc (SV.bool b)) [])
  | _, _ => none
theorem o_spec_l01IsWord_ok (N : Nat) : FnOk E 68 (o_spec_l01IsWord N) := by
  intro R args H K r h
  unfold o_spec_l01IsWord at h
  dsimp only at h
  split at h
  · exact fnB_ok (ids := []) (top := []) ok (O_spec_l01IsWord_ok N) (jn_ok _ _ _) Go.Proofs.Try.func68 (by kernel_rfl) (IT := noIt) (sl := sl_spec_l01IsWord) (J := J_spec_l01IsWord) (K := K) (H := []) (noIt_ok) (by kernel_rfl) rfl ((e_spec_l01IsWord N _ K).trans h)
  · cases h
/-! ### loop.example/g00038/spec.l04Words -/
abbrev sl_spec_l04Words_r : SlotT := [(0, ([0, 1, 5], [4]))]
abbrev J_spec_l04Words_r : JT := jn [] [] []
noncomputable def O_spec_l04Words_r (N : Nat) : Orc E := addFn 68 (o_spec_l01IsWord N) (noFn)
theorem O_spec_l04Words_r_ok (N : Nat) : OrcOk (O_spec_l04Words_r N) := addFn_ok (o_spec_l01IsWord_ok N) (noFn_ok)
noncomputable def s_spec_l04Words_r_0 (N : Nat) {R : Type} (b1 : Bool) (n1 : Int) (l1 : List Int) (n2 : Int) (ag : Int → Option R)  (kR : Option R) (kN : Option R) : Option R :=
  (cond (decide ((n2 < n1)))
  (cond ((decide (((0 : Int) ≤ n2))) && (decide ((n2 < (((List.length l1) : Nat) : Int)))))
    (elemK l1 (Int.toNat n2) fun x =>
      (g_spec_l01IsWord N x fun b2 =>
      (cond (!b2)
      kR
      (ag (IntKind.wrap IntKind.i64 (n2 + (1 : Int)))))))
    none)
  kN)
noncomputable def l_spec_l04Words_r_0 (N : Nat) {R : Type} (b1 : Bool) (n1 : Int) (l1 : List Int) (kR : Option R) (kN : Option R) : Nat → Int → Option R
  | 0, _ => none
  | f + 1, n2 => s_spec_l04Words_r_0 N b1 n1 l1 n2 (fun n2 => l_spec_l04Words_r_0 N b1 n1 l1 kR kN f n2)  kR kN
noncomputable def c_spec_l04Words_r_0 (N : Nat) {R : Type} (b1 : Bool) (n1 : Int) (l1 : List Int) (n2 : Int) (kR : Option R) (kN : Option R) : Option R := l_spec_l04Words_r_0 N b1 n1 l1 kR kN N n2
theorem se_spec_l04Words_r_0 (N : Nat) {R : Type} (b1 : Bool) (n1 : Int) (l1 : List Int) (n2 : Int) (AG : List (Option AV) → Hp E → Option R) (KL : Ex → List (Option AV) → Hp E → Option R) :
    iterStep (E := E) (O_spec_l04Words_r N) (fun {R} => LI (noIt) 1 21 sl_spec_l04Words_r (R := R)) J_spec_l04Words_r 1 21 0 [0, 1, 5] [4] (body Go.Proofs.Try.f69 0) AG KL [(some (AV.sc (SV.slc 0 none b1))), (some (AV.sc (SV.int IntKind.i64 n1))), (some (AV.sc (SV.int IntKind.i64 n2)))] [(some (HE.mk true (HB.rows (B.i64 l1))))] =
      s_spec_l04Words_r_0 N b1 n1 l1 n2 (fun n2 => AG [(some (AV.sc (SV.slc 0 none b1))), (some (AV.sc (SV.int IntKind.i64 n1))), (some (AV.sc (SV.int IntKind.i64 n2)))] [(some (HE.mk true (HB.rows (B.i64 l1))))])  (KL Ex.ret [(some (AV.sc (SV.bool false)))] [(some (HE.mk true (HB.rows (B.i64 l1))))]) (KL Ex.normal [none] [(some (HE.mk true (HB.rows (B.i64 l1))))]) := by kernel_rfl
theorem le_spec_l04Words_r_0 (N : Nat) {R : Type} (b1 : Bool) (n1 : Int) (l1 : List Int) (KL : Ex → List (Option AV) → Hp E → Option R) : ∀ (f : Nat), ∀ (n2 : Int), iterK (E := E) (O_spec_l04Words_r N) (fun {R} => LI (noIt) 1 21 sl_spec_l04Words_r (R := R)) J_spec_l04Words_r 1 21 0 [0, 1, 5] [4] (body Go.Proofs.Try.f69 0) f [(some (AV.sc (SV.slc 0 none b1))), (some (AV.sc (SV.int IntKind.i64 n1))), (some (AV.sc (SV.int IntKind.i64 n2)))] [(some (HE.mk true (HB.rows (B.i64 l1))))] KL = l_spec_l04Words_r_0 N b1 n1 l1 (KL Ex.ret [(some (AV.sc (SV.bool false)))] [(some (HE.mk true (HB.rows (B.i64 l1))))]) (KL Ex.normal [none] [(some (HE.mk true (HB.rows (B.i64 l1))))]) f n2 := by
  intro f
  induction f with
  | zero => intros; rfl
  | succ f ih =>
    intro n2
    rw [iterK_succ, se_spec_l04Words_r_0]
    exact (congrArg (fun z0 => s_spec_l04Words_r_0 N b1 n1 l1 n2 z0 (KL Ex.ret [(some (AV.sc (SV.bool false)))] [(some (HE.mk true (HB.rows (B.i64 l1))))]) (KL Ex.normal [none] [(some (HE.mk true (HB.rows (B.i64 l1))))])) (funext fun n2 => ih n2))
noncomputable def i_spec_l04Words_r_0 (N : Nat) {R : Type} (vs : List (Option AV)) (H : Hp E) (KL : Ex → List (Option AV) → Hp E → Option R) : Option R :=
  match vs, H with
  | [(some (AV.sc (SV.slc 0 none b1))), (some (AV.sc (SV.int IntKind.i64 n1))), (some (AV.sc (SV.int IntKind.i64 n2)))], [(some (HE.mk true (HB.rows (B.i64 l1))))] => c_spec_l04Words_r_0 N b1 n1 l1 n2 (KL Ex.ret [(some (AV.sc (SV.bool false)))] [(some (HE.mk true (HB.rows (B.i64 l1))))]) (KL Ex.normal [none] [(some (HE.mk true (HB.rows (B.i64 l1))))])
  | _, _ => none
noncomputable def IT_spec_l04Words_r_0 (N : Nat) : Its E := addIt 0 (i_spec_l04Words_r_0 N) (noIt)
theorem IT_spec_l04Words_r_0_ok (N : Nat) : ItOk (IT_spec_l04Words_r_0 N) 1 21 sl_spec_l04Words_r (lsB Go.Proofs.Try.f69 [0]) :=
  addItB_ok (inner := []) ok (O_spec_l04Words_r_ok N) (jn_ok _ _ _) (noIt_ok) rfl (by kernel_rfl) rfl fun vs H KL r h => by
    unfold i_spec_l04Words_r_0 at h
    split at h
    · exact ⟨_, (le_spec_l04Words_r_0 N _ _ _ KL N _).trans h⟩
    · cases h
noncomputable def g_spec_l04Words_r (N : Nat) {R : Type} (b : Bool) (n : Int) (l : List Int) (k : Bool → Option R) : Option R :=
  (cond ((((List.length l) : Nat) : Int) != n)
  (k false)
  (c_spec_l04Words_r_0 N b n l (0 : Int) (
    (k false)) (
    (k true))))
theorem e_spec_l04Words_r (N : Nat) {R : Type} (b : Bool) (n : Int) (l : List Int) (K : AV → Hp E → Option R) :
    runFnI (E := E) (O_spec_l04Words_r N) (IT_spec_l04Words_r_0 N) sl_spec_l04Words_r J_spec_l04Words_r Go.Proofs.Try.f69 [(AV.sc (SV.slc 0 none b)), (AV.sc (SV.int IntKind.i64 n))] [(some (HE.mk true (HB.rows (B.i64 l))))] K =
      g_spec_l04Words_r N b n l (fun b3 => K (AV.sc (SV.bool b3)) [(some (HE.mk true (HB.rows (B.i64 l))))]) := by kernel_rfl
noncomputable def o_spec_l04Words_r (N : Nat) {R : Type} (args : List AV) (H : Hp E) (K : AV → Hp E → Option R) : Option R :=
  match args, H with
  | [(AV.sc (SV.slc 0 none b)), (AV.sc (SV.int IntKind.i64 n))], [(some (HE.mk true (HB.rows (B.i64 l))))] => g_spec_l04Words_r N b n l (fun b3 => K (AV.sc (SV.bool b3)) [(some (HE.mk true (HB.rows (B.i64 l))))])
  | _, _ => none
theorem o_spec_l04Words_r_ok (N : Nat) : FnOk E 69 (o_spec_l04Words_r N) := by
  intro R args H K r h
  unfold o_spec_l04Words_r at h
  dsimp only at h
  split at h
  · exact fnB_ok (ids := [0]) (top := [0]) ok (O_spec_l04Words_r_ok N) (jn_ok _ _ _) Go.Proofs.Try.func69 (by kernel_rfl) (IT := IT_spec_l04Words_r_0 N) (sl := sl_spec_l04Words_r) (J := J_spec_l04Words_r) (K := K) (H := [(some (HE.mk true (HB.rows (B.i64 _))))]) (IT_spec_l04Words_r_0_ok N) (by kernel_rfl) rfl ((e_spec_l04Words_r N _ _ _ K).trans h)
  · cases h
/-! ### loop.example/g00038/spec.l15Regs -/
abbrev sl_spec_l15Regs_r : SlotT := []
abbrev J_spec_l15Regs_r : JT := jn [(1, [(2, .b)])] [] []
noncomputable def O_spec_l15Regs_r (N : Nat) : Orc E := addFn 69 (o_spec_l04Words_r N) (noFn)
theorem O_spec_l15Regs_r_ok (N : Nat) : OrcOk (O_spec_l15Regs_r N) := addFn_ok (o_spec_l04Words_r_ok N) (noFn_ok)
noncomputable def g_spec_l15Regs_r (N : Nat) {R : Type} (b : Bool) (l : List Int) (k : Bool → Option R) : Option R :=
  (oK (cond (decide (((((List.length l) : Nat) : Int) ≥ (1 : Int))))
    (cond (decide (((((List.length l) : Nat) : Int) ≤ (8 : Int))))
      (g_spec_l04Words_r N b (((List.length l) : Nat) : Int) l fun b1 =>
        (some b1))
      (some false))
    (some false)) fun j =>
  (k j))
theorem e_spec_l15Regs_r (N : Nat) {R : Type} (b : Bool) (l : List Int) (K : AV → Hp E → Option R) :
    runFnI (E := E) (O_spec_l15Regs_r N) (noIt) sl_spec_l15Regs_r J_spec_l15Regs_r Go.Proofs.Try.f86 [(AV.sc (SV.slc 0 none b))] [(some (HE.mk true (HB.rows (B.i64 l))))] K =
      g_spec_l15Regs_r N b l (fun b2 => K (AV.sc (SV.bool b2)) [(some (HE.mk true (HB.rows (B.i64 l))))]) := by kernel_rfl
noncomputable def o_spec_l15Regs_r (N : Nat) {R : Type} (args : List AV) (H : Hp E) (K : AV → Hp E → Option R) : Option R :=
  match args, H with
  | [(AV.sc (SV.slc 0 none b))], [(some (HE.mk true (HB.rows (B.i64 l))))] => g_spec_l15Regs_r N b l (fun b2 => K (AV.sc (SV.bool b2)) [(some (HE.mk true (HB.rows (B.i64 l))))])
  | _, _ => none
theorem o_spec_l15Regs_r_ok (N : Nat) : FnOk E 86 (o_spec_l15Regs_r N) := by
  intro R args H K r h
  unfold o_spec_l15Regs_r at h
  dsimp only at h
  split at h
  · exact fnB_ok (ids := []) (top := []) ok (O_spec_l15Regs_r_ok N) (jn_ok _ _ _) Go.Proofs.Try.func86 (by kernel_rfl) (IT := noIt) (sl := sl_spec_l15Regs_r) (J := J_spec_l15Regs_r) (K := K) (H := [(some (HE.mk true (HB.rows (B.i64 _))))]) (noIt_ok) (by kernel_rfl) rfl ((e_spec_l15Regs_r N _ _ K).trans h)
  · cases h
end Go.Sa
