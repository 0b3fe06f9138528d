import Derived.Test.YtaffhdhamfilpaaSpec
import Derived.Test.YtaffhdhamfilpaaPLb
import Derived.Test.YtaffhdhamfilpaaW1
set_option linter.all false
namespace Go.Sa
open Go Go.Eng Go.Proofs
set_option maxRecDepth 100000
set_option maxHeartbeats 4000000
/-! ### loop.example/g00038/spec.l20Set -/
abbrev sl_spec_l20Set : SlotT := [(0, ([0, 1, 5, 6, 7], [6]))]
abbrev J_spec_l20Set : JT := jn [] [(26, [(6, .s)])] []
noncomputable def O_spec_l20Set (N : Nat) : Orc E := addFn 71 (o_spec_PutBit N) (addFn 29 (o_spec_l06Frame N) (addFn 25 (o_spec_l20Frames N) (noFn)))
noncomputable def pa_spec_l20Set__o_spec_PutBit (N : Nat) (G_spec_PutBit : ∀ {R : Type} (s : ByteArray) (n : Int) (b : Bool) (k : ByteArray → Option R), Option R) {R : Type} (args : List AV) (H : Hp E) (K : AV → Hp E → Option R) : Option R :=
 match args, H with
 | [(AV.sc (SV.str s)), (AV.sc (SV.int IntKind.i64 n)), (AV.sc (SV.bool b))], [] => G_spec_PutBit s n b (fun s2 => K (AV.sc (SV.str s2)) [])
 | _, _ => none
noncomputable def pa_spec_l20Set__o_spec_l06Frame (N : Nat) (G_spec_l06Frame : ∀ {R : Type} (s : ByteArray) (n : Int) (k : ByteArray → Option R), Option R) {R : Type} (args : List AV) (H : Hp E) (K : AV → Hp E → Option R) : Option R :=
 match args, H with
 | [(AV.sc (SV.str s)), (AV.sc (SV.int IntKind.i64 n))], [] => G_spec_l06Frame s n (fun s1 => K (AV.sc (SV.str s1)) [])
 | _, _ => none
noncomputable def pa_spec_l20Set__o_spec_l20Frames (N : Nat) (G_spec_l20Frames : ∀ {R : Type} (s : ByteArray) (k : Int → Option R), Option R) {R : Type} (args : List AV) (H : Hp E) (K : AV → Hp E → Option R) : Option R :=
 match args, H with
 | [(AV.sc (SV.str s))], [] => G_spec_l20Frames s (fun n => K (AV.sc (SV.int IntKind.i64 n)) [])
 | _, _ => none
noncomputable def OA_spec_l20Set (N : Nat) (G_spec_PutBit : ∀ {R : Type} (s : ByteArray) (n : Int) (b : Bool) (k : ByteArray → Option R), Option R) (G_spec_l06Frame : ∀ {R : Type} (s : ByteArray) (n : Int) (k : ByteArray → Option R), Option R) (G_spec_l20Frames : ∀ {R : Type} (s : ByteArray) (k : Int → Option R), Option R) : Orc E := addFn 71 (pa_spec_l20Set__o_spec_PutBit N G_spec_PutBit) (addFn 29 (pa_spec_l20Set__o_spec_l06Frame N G_spec_l06Frame) (addFn 25 (pa_spec_l20Set__o_spec_l20Frames N G_spec_l20Frames) (noFn)))
theorem O_spec_l20Set_ok (N : Nat) : OrcOk (O_spec_l20Set N) := addFn_ok (o_spec_PutBit_ok N) (addFn_ok (o_spec_l06Frame_ok N) (addFn_ok (o_spec_l20Frames_ok N) (noFn_ok)))
noncomputable def s_spec_l20Set_0 (N : Nat) {R : Type} (s2 : ByteArray) (s3 : ByteArray) (n1 : Int) (s4 : ByteArray) (n2 : Int) (ag : ByteArray → Int → Option R)  (kN : ByteArray → Option R) : Option R :=
 (cond (decide ((n2 < n1)))
 (g_spec_l06Frame N s2 n2 fun s5 =>
 (g_spec_l06Frame N s3 n2 fun s6 =>
 (oK (cond (!(decide ((s5 = s6))))
 (g_spec_PutBit N s4 n2 true fun s7 =>
 (some s7))
 (some s4)) fun j =>
 (ag j (IntKind.wrap IntKind.i64 (n2 + (1 : Int)))))))
 (kN s4))
noncomputable def ga_s_spec_l20Set_0 (N : Nat) (G_spec_PutBit : ∀ {R : Type} (s : ByteArray) (n : Int) (b : Bool) (k : ByteArray → Option R), Option R) (G_spec_l06Frame : ∀ {R : Type} (s : ByteArray) (n : Int) (k : ByteArray → Option R), Option R) (G_spec_l20Frames : ∀ {R : Type} (s : ByteArray) (k : Int → Option R), Option R) {R : Type} (s2 : ByteArray) (s3 : ByteArray) (n1 : Int) (s4 : ByteArray) (n2 : Int) (ag : ByteArray → Int → Option R)  (kN : ByteArray → Option R) : Option R :=
 (cond (decide ((n2 < n1)))
 (G_spec_l06Frame s2 n2 fun s5 =>
 (G_spec_l06Frame s3 n2 fun s6 =>
 (oK (cond (!(decide ((s5 = s6))))
 (G_spec_PutBit s4 n2 true fun s7 =>
 (some s7))
 (some s4)) fun j =>
 (ag j (IntKind.wrap IntKind.i64 (n2 + (1 : Int)))))))
 (kN s4))
noncomputable def l_spec_l20Set_0 (N : Nat) {R : Type} (s2 : ByteArray) (s3 : ByteArray) (n1 : Int) (kN : ByteArray → Option R) : Nat → ByteArray → Int → Option R
 | 0, _, _ => none
 | f + 1, s4, n2 => s_spec_l20Set_0 N s2 s3 n1 s4 n2 (fun s4 n2 => l_spec_l20Set_0 N s2 s3 n1 kN f s4 n2)  kN
noncomputable def c_spec_l20Set_0 (N : Nat) {R : Type} (s2 : ByteArray) (s3 : ByteArray) (n1 : Int) (s4 : ByteArray) (n2 : Int) (kN : ByteArray → Option R) : Option R := l_spec_l20Set_0 N s2 s3 n1 kN N s4 n2
theorem ea_se_spec_l20Set_0 (N : Nat) (G_spec_PutBit : ∀ {R : Type} (s : ByteArray) (n : Int) (b : Bool) (k : ByteArray → Option R), Option R) (G_spec_l06Frame : ∀ {R : Type} (s : ByteArray) (n : Int) (k : ByteArray → Option R), Option R) (G_spec_l20Frames : ∀ {R : Type} (s : ByteArray) (k : Int → Option R), Option R) {R : Type} (s2 : ByteArray) (s3 : ByteArray) (n1 : Int) (s4 : ByteArray) (n2 : Int) (AG : List (Option AV) → Hp E → Option R) (KL : Ex → List (Option AV) → Hp E → Option R) :
    iterStep (E := E) (OA_spec_l20Set N G_spec_PutBit G_spec_l06Frame G_spec_l20Frames) (fun {R} => LI (noIt) 0 31 sl_spec_l20Set (R := R)) J_spec_l20Set 0 31 0 [0, 1, 5, 6, 7] [6] (body Try.f28 0) AG KL [(some (AV.sc (SV.str s2))), (some (AV.sc (SV.str s3))), (some (AV.sc (SV.int IntKind.i64 n1))), (some (AV.sc (SV.str s4))), (some (AV.sc (SV.int IntKind.i64 n2)))] [] =
      ga_s_spec_l20Set_0 N G_spec_PutBit G_spec_l06Frame G_spec_l20Frames s2 s3 n1 s4 n2 (fun s4 n2 => AG [(some (AV.sc (SV.str s2))), (some (AV.sc (SV.str s3))), (some (AV.sc (SV.int IntKind.i64 n1))), (some (AV.sc (SV.str s4))), (some (AV.sc (SV.int IntKind.i64 n2)))] [])  (fun s10 => KL Ex.normal [(some (AV.sc (SV.str s10)))] []) := by kernel_rfl
theorem se_spec_l20Set_0 (N : Nat) {R : Type} (s2 : ByteArray) (s3 : ByteArray) (n1 : Int) (s4 : ByteArray) (n2 : Int) (AG : List (Option AV) → Hp E → Option R) (KL : Ex → List (Option AV) → Hp E → Option R) :
    iterStep (E := E) (O_spec_l20Set N) (fun {R} => LI (noIt) 0 31 sl_spec_l20Set (R := R)) J_spec_l20Set 0 31 0 [0, 1, 5, 6, 7] [6] (body Try.f28 0) AG KL [(some (AV.sc (SV.str s2))), (some (AV.sc (SV.str s3))), (some (AV.sc (SV.int IntKind.i64 n1))), (some (AV.sc (SV.str s4))), (some (AV.sc (SV.int IntKind.i64 n2)))] [] =
      s_spec_l20Set_0 N s2 s3 n1 s4 n2 (fun s4 n2 => AG [(some (AV.sc (SV.str s2))), (some (AV.sc (SV.str s3))), (some (AV.sc (SV.int IntKind.i64 n1))), (some (AV.sc (SV.str s4))), (some (AV.sc (SV.int IntKind.i64 n2)))] [])  (fun s10 => KL Ex.normal [(some (AV.sc (SV.str s10)))] []) := castPr (by kernel_rfl) (ea_se_spec_l20Set_0 N (g_spec_PutBit N) (g_spec_l06Frame N) (g_spec_l20Frames N) s2 s3 n1 s4 n2 AG KL)
theorem le_spec_l20Set_0 (N : Nat) {R : Type} (s2 : ByteArray) (s3 : ByteArray) (n1 : Int) (KL : Ex → List (Option AV) → Hp E → Option R) : ∀ (f : Nat), ∀ (s4 : ByteArray) (n2 : Int), iterK (E := E) (O_spec_l20Set N) (fun {R} => LI (noIt) 0 31 sl_spec_l20Set (R := R)) J_spec_l20Set 0 31 0 [0, 1, 5, 6, 7] [6] (body Try.f28 0) f [(some (AV.sc (SV.str s2))), (some (AV.sc (SV.str s3))), (some (AV.sc (SV.int IntKind.i64 n1))), (some (AV.sc (SV.str s4))), (some (AV.sc (SV.int IntKind.i64 n2)))] [] KL = l_spec_l20Set_0 N s2 s3 n1 (fun s10 => KL Ex.normal [(some (AV.sc (SV.str s10)))] []) f s4 n2 := by
  intro f
  induction f with
  | zero => intros; rfl
  | succ f ih =>
    intro s4 n2
    rw [iterK_succ, se_spec_l20Set_0]
    exact (congrArg (fun z0 => s_spec_l20Set_0 N s2 s3 n1 s4 n2 z0 (fun s10 => KL Ex.normal [(some (AV.sc (SV.str s10)))] [])) (funext fun s4 => funext fun n2 => ih s4 n2))
noncomputable def i_spec_l20Set_0 (N : Nat) {R : Type} (vs : List (Option AV)) (H : Hp E) (KL : Ex → List (Option AV) → Hp E → Option R) : Option R :=
 match vs, H with
 | [(some (AV.sc (SV.str s2))), (some (AV.sc (SV.str s3))), (some (AV.sc (SV.int IntKind.i64 n1))), (some (AV.sc (SV.str s4))), (some (AV.sc (SV.int IntKind.i64 n2)))], [] => c_spec_l20Set_0 N s2 s3 n1 s4 n2 (fun s11 => KL Ex.normal [(some (AV.sc (SV.str s11)))] [])
 | _, _ => none
noncomputable def IT_spec_l20Set_0 (N : Nat) : Its E := addIt 0 (i_spec_l20Set_0 N) (noIt)
theorem IT_spec_l20Set_0_ok (N : Nat) : ItOk (IT_spec_l20Set_0 N) 0 31 sl_spec_l20Set (lsB Try.f28 [0]) :=
  addItB_ok (inner := []) ok (O_spec_l20Set_ok N) (jn_ok _ _ _) (noIt_ok) rfl (by kernel_rfl) rfl fun vs H KL r h => by
    unfold i_spec_l20Set_0 at h
    split at h
    · exact ⟨_, (le_spec_l20Set_0 N _ _ _ KL N _ _).trans h⟩
    · cases h
noncomputable def g_spec_l20Set (N : Nat) {R : Type} (s : ByteArray) (s1 : ByteArray) (k : ByteArray → Option R) : Option R :=
 (g_spec_l20Frames N s fun n =>
 (cond (((decide (((IntKind.wrap IntKind.i64 (Int.tdiv (IntKind.wrap IntKind.i64 (n + (7 : Int))) (8 : Int))) = (IntKind.wrap IntKind.i64 (Int.tdiv (IntKind.wrap IntKind.i64 (n + (7 : Int))) (8 : Int)))))) && (decide (((0 : Int) ≤ (IntKind.wrap IntKind.i64 (Int.tdiv (IntKind.wrap IntKind.i64 (n + (7 : Int))) (8 : Int))))))) && (Go.Eng.roomOk (Int.toNat (IntKind.wrap IntKind.i64 (Int.tdiv (IntKind.wrap IntKind.i64 (n + (7 : Int))) (8 : Int)))) 1))
 (cond (Nat.ble (0 + (List.length (List.replicate (Int.toNat (IntKind.wrap IntKind.i64 (Int.tdiv (IntKind.wrap IntKind.i64 (n + (7 : Int))) (8 : Int)))) (0 : Int)))) (List.length (List.replicate (Int.toNat (IntKind.wrap IntKind.i64 (Int.tdiv (IntKind.wrap IntKind.i64 (n + (7 : Int))) (8 : Int)))) (0 : Int))))
 (c_spec_l20Set_0 N s s1 n (Go.Eng.toBytes (Go.Eng.seg (List.replicate (Int.toNat (IntKind.wrap IntKind.i64 (Int.tdiv (IntKind.wrap IntKind.i64 (n + (7 : Int))) (8 : Int)))) (0 : Int)) 0 (List.length (List.replicate (Int.toNat (IntKind.wrap IntKind.i64 (Int.tdiv (IntKind.wrap IntKind.i64 (n + (7 : Int))) (8 : Int)))) (0 : Int))))) (0 : Int) fun s8 =>
 (k s8))
 none)
 none))
noncomputable def ga_g_spec_l20Set (N : Nat) (G_spec_PutBit : ∀ {R : Type} (s : ByteArray) (n : Int) (b : Bool) (k : ByteArray → Option R), Option R) (G_spec_l06Frame : ∀ {R : Type} (s : ByteArray) (n : Int) (k : ByteArray → Option R), Option R) (G_spec_l20Frames : ∀ {R : Type} (s : ByteArray) (k : Int → Option R), Option R) {R : Type} (s : ByteArray) (s1 : ByteArray) (k : ByteArray → Option R) : Option R :=
 (G_spec_l20Frames s fun n =>
 (cond (((decide (((IntKind.wrap IntKind.i64 (Int.tdiv (IntKind.wrap IntKind.i64 (n + (7 : Int))) (8 : Int))) = (IntKind.wrap IntKind.i64 (Int.tdiv (IntKind.wrap IntKind.i64 (n + (7 : Int))) (8 : Int)))))) && (decide (((0 : Int) ≤ (IntKind.wrap IntKind.i64 (Int.tdiv (IntKind.wrap IntKind.i64 (n + (7 : Int))) (8 : Int))))))) && (Go.Eng.roomOk (Int.toNat (IntKind.wrap IntKind.i64 (Int.tdiv (IntKind.wrap IntKind.i64 (n + (7 : Int))) (8 : Int)))) 1))
 (cond (Nat.ble (0 + (List.length (List.replicate (Int.toNat (IntKind.wrap IntKind.i64 (Int.tdiv (IntKind.wrap IntKind.i64 (n + (7 : Int))) (8 : Int)))) (0 : Int)))) (List.length (List.replicate (Int.toNat (IntKind.wrap IntKind.i64 (Int.tdiv (IntKind.wrap IntKind.i64 (n + (7 : Int))) (8 : Int)))) (0 : Int))))
 (c_spec_l20Set_0 N s s1 n (Go.Eng.toBytes (Go.Eng.seg (List.replicate (Int.toNat (IntKind.wrap IntKind.i64 (Int.tdiv (IntKind.wrap IntKind.i64 (n + (7 : Int))) (8 : Int)))) (0 : Int)) 0 (List.length (List.replicate (Int.toNat (IntKind.wrap IntKind.i64 (Int.tdiv (IntKind.wrap IntKind.i64 (n + (7 : Int))) (8 : Int)))) (0 : Int))))) (0 : Int) fun s8 =>
 (k s8))
 none)
 none))
theorem ea_e_spec_l20Set (N : Nat) (G_spec_PutBit : ∀ {R : Type} (s : ByteArray) (n : Int) (b : Bool) (k : ByteArray → Option R), Option R) (G_spec_l06Frame : ∀ {R : Type} (s : ByteArray) (n : Int) (k : ByteArray → Option R), Option R) (G_spec_l20Frames : ∀ {R : Type} (s : ByteArray) (k : Int → Option R), Option R) {R : Type} (s : ByteArray) (s1 : ByteArray) (K : AV → Hp E → Option R) :
    runFnI (E := E) (OA_spec_l20Set N G_spec_PutBit G_spec_l06Frame G_spec_l20Frames) (IT_spec_l20Set_0 N) sl_spec_l20Set J_spec_l20Set Try.f28 [(AV.sc (SV.str s)), (AV.sc (SV.str s1))] [] K =
      ga_g_spec_l20Set N G_spec_PutBit G_spec_l06Frame G_spec_l20Frames s s1 (fun s9 => K (AV.sc (SV.str s9)) []) := by kernel_rfl
theorem e_spec_l20Set (N : Nat) {R : Type} (s : ByteArray) (s1 : ByteArray) (K : AV → Hp E → Option R) :
    runFnI (E := E) (O_spec_l20Set N) (IT_spec_l20Set_0 N) sl_spec_l20Set J_spec_l20Set Try.f28 [(AV.sc (SV.str s)), (AV.sc (SV.str s1))] [] K =
      g_spec_l20Set N s s1 (fun s9 => K (AV.sc (SV.str s9)) []) := castPr (by kernel_rfl) (ea_e_spec_l20Set N (g_spec_PutBit N) (g_spec_l06Frame N) (g_spec_l20Frames N) s s1 K)
noncomputable def o_spec_l20Set (N : Nat) {R : Type} (args : List AV) (H : Hp E) (K : AV → Hp E → Option R) : Option R :=
 match args, H with
 | [(AV.sc (SV.str s)), (AV.sc (SV.str s1))], [] => g_spec_l20Set N s s1 (fun s9 => K (AV.sc (SV.str s9)) [])
 | _, _ => none
theorem o_spec_l20Set_ok (N : Nat) : FnOk E 28 (o_spec_l20Set N) := by
  intro R args H K r h
  unfold o_spec_l20Set at h
  dsimp only at h
  split at h
  · exact fnB_ok (ids := [0]) (top := [0]) ok (O_spec_l20Set_ok N) (jn_ok _ _ _) Try.func28 (by kernel_rfl) (IT := IT_spec_l20Set_0 N) (sl := sl_spec_l20Set) (J := J_spec_l20Set) (K := K) (H := []) (IT_spec_l20Set_0_ok N) (by kernel_rfl) rfl ((e_spec_l20Set N _ _ K).trans h)
  · cases h
/-! ### loop.example/g00038/spec.Mix -/
abbrev sl_spec_Mix : SlotT := [(0, ([0, 5, 6], [5]))]
abbrev J_spec_Mix : JT := jn [] [] []
noncomputable def O_spec_Mix (N : Nat) : Orc E := addFn 73 (o_spec_l01Mod N) (noFn)
theorem O_spec_Mix_ok (N : Nat) : OrcOk (O_spec_Mix N) := addFn_ok (o_spec_l01Mod_ok N) (noFn_ok)
noncomputable def s_spec_Mix_0 (N : Nat) {R : Type} (s1 : ByteArray) (n2 : Int) (n3 : Int) (ag : Int → Int → Option R)  (kN : Int → Option R) : Option R :=
 (cond (decide ((n3 < (((ByteArray.size s1) : Nat) : Int))))
 (cond ((decide (((0 : Int) ≤ n3))) && (decide ((n3 < (((ByteArray.size s1) : Nat) : Int)))))
 (ag (Int.tmod (IntKind.wrap IntKind.i64 ((IntKind.wrap IntKind.i64 ((IntKind.wrap IntKind.i64 (n2 * (65599 : Int))) + (IntKind.wrap IntKind.i64 (Go.Eng.bt s1 (Int.toNat n3))))) + (1 : Int))) (2147483629 : Int)) (IntKind.wrap IntKind.i64 (n3 + (1 : Int))))
 none)
 (kN n2))
noncomputable def l_spec_Mix_0 (N : Nat) {R : Type} (s1 : ByteArray) (kN : Int → Option R) : Nat → Int → Int → Option R
 | 0, _, _ => none
 | f + 1, n2, n3 => s_spec_Mix_0 N s1 n2 n3 (fun n2 n3 => l_spec_Mix_0 N s1 kN f n2 n3)  kN
noncomputable def c_spec_Mix_0 (N : Nat) {R : Type} (s1 : ByteArray) (n2 : Int) (n3 : Int) (kN : Int → Option R) : Option R := l_spec_Mix_0 N s1 kN N n2 n3
theorem se_spec_Mix_0 (N : Nat) {R : Type} (s1 : ByteArray) (n2 : Int) (n3 : Int) (AG : List (Option AV) → Hp E → Option R) (KL : Ex → List (Option AV) → Hp E → Option R) :
    iterStep (E := E) (O_spec_Mix N) (fun {R} => LI (noIt) 0 32 sl_spec_Mix (R := R)) J_spec_Mix 0 32 0 [0, 5, 6] [5] (body Try.f32 0) AG KL [(some (AV.sc (SV.str s1))), (some (AV.sc (SV.int IntKind.i64 n2))), (some (AV.sc (SV.int IntKind.i64 n3)))] [] =
      s_spec_Mix_0 N s1 n2 n3 (fun n2 n3 => AG [(some (AV.sc (SV.str s1))), (some (AV.sc (SV.int IntKind.i64 n2))), (some (AV.sc (SV.int IntKind.i64 n3)))] [])  (fun n6 => KL Ex.normal [(some (AV.sc (SV.int IntKind.i64 n6)))] []) := by kernel_rfl
theorem le_spec_Mix_0 (N : Nat) {R : Type} (s1 : ByteArray) (KL : Ex → List (Option AV) → Hp E → Option R) : ∀ (f : Nat), ∀ (n2 : Int) (n3 : Int), iterK (E := E) (O_spec_Mix N) (fun {R} => LI (noIt) 0 32 sl_spec_Mix (R := R)) J_spec_Mix 0 32 0 [0, 5, 6] [5] (body Try.f32 0) f [(some (AV.sc (SV.str s1))), (some (AV.sc (SV.int IntKind.i64 n2))), (some (AV.sc (SV.int IntKind.i64 n3)))] [] KL = l_spec_Mix_0 N s1 (fun n6 => KL Ex.normal [(some (AV.sc (SV.int IntKind.i64 n6)))] []) f n2 n3 := by
  intro f
  induction f with
  | zero => intros; rfl
  | succ f ih =>
    intro n2 n3
    rw [iterK_succ, se_spec_Mix_0]
    exact (congrArg (fun z0 => s_spec_Mix_0 N s1 n2 n3 z0 (fun n6 => KL Ex.normal [(some (AV.sc (SV.int IntKind.i64 n6)))] [])) (funext fun n2 => funext fun n3 => ih n2 n3))
noncomputable def i_spec_Mix_0 (N : Nat) {R : Type} (vs : List (Option AV)) (H : Hp E) (KL : Ex → List (Option AV) → Hp E → Option R) : Option R :=
 match vs, H with
 | [(some (AV.sc (SV.str s1))), (some (AV.sc (SV.int IntKind.i64 n2))), (some (AV.sc (SV.int IntKind.i64 n3)))], [] => c_spec_Mix_0 N s1 n2 n3 (fun n7 => KL Ex.normal [(some (AV.sc (SV.int IntKind.i64 n7)))] [])
 | _, _ => none
noncomputable def IT_spec_Mix_0 (N : Nat) : Its E := addIt 0 (i_spec_Mix_0 N) (noIt)
theorem IT_spec_Mix_0_ok (N : Nat) : ItOk (IT_spec_Mix_0 N) 0 32 sl_spec_Mix (lsB Try.f32 [0]) :=
  addItB_ok (inner := []) ok (O_spec_Mix_ok N) (jn_ok _ _ _) (noIt_ok) rfl (by kernel_rfl) rfl fun vs H KL r h => by
    unfold i_spec_Mix_0 at h
    split at h
    · exact ⟨_, (le_spec_Mix_0 N _ KL N _ _).trans h⟩
    · cases h
noncomputable def g_spec_Mix (N : Nat) {R : Type} (s : ByteArray) (n : Int) (k : Int → Option R) : Option R :=
 (cond (decide (((((ByteArray.size s) : Nat) : Int) > (65536 : Int))))
 (k (0 : Int))
 (g_spec_l01Mod N n (2147483629 : Int) fun n1 =>
 (c_spec_Mix_0 N s (IntKind.wrap IntKind.i64 (n1 + (1 : Int))) (0 : Int) fun n4 =>
 (k (Int.tmod (IntKind.wrap IntKind.i64 ((IntKind.wrap IntKind.i64 (n4 * (40503 : Int))) + (77 : Int))) (2147483629 : Int))))))
theorem e_spec_Mix (N : Nat) {R : Type} (s : ByteArray) (n : Int) (K : AV → Hp E → Option R) :
    runFnI (E := E) (O_spec_Mix N) (IT_spec_Mix_0 N) sl_spec_Mix J_spec_Mix Try.f32 [(AV.sc (SV.str s)), (AV.sc (SV.int IntKind.i64 n))] [] K =
      g_spec_Mix N s n (fun n5 => K (AV.sc (SV.int IntKind.i64 n5)) []) := by kernel_rfl
noncomputable def o_spec_Mix (N : Nat) {R : Type} (args : List AV) (H : Hp E) (K : AV → Hp E → Option R) : Option R :=
 match args, H with
 | [(AV.sc (SV.str s)), (AV.sc (SV.int IntKind.i64 n))], [] => g_spec_Mix N s n (fun n5 => K (AV.sc (SV.int IntKind.i64 n5)) [])
 | _, _ => none
theorem o_spec_Mix_ok (N : Nat) : FnOk E 32 (o_spec_Mix N) := by
  intro R args H K r h
  unfold o_spec_Mix at h
  dsimp only at h
  split at h
  · exact fnB_ok (ids := [0]) (top := [0]) ok (O_spec_Mix_ok N) (jn_ok _ _ _) Try.func32 (by kernel_rfl) (IT := IT_spec_Mix_0 N) (sl := sl_spec_Mix) (J := J_spec_Mix) (K := K) (H := []) (IT_spec_Mix_0_ok N) (by kernel_rfl) rfl ((e_spec_Mix N _ _ K).trans h)
  · cases h
/-! ### loop.example/g00038/spec.PackMachine -/
abbrev sl_spec_PackMachine_rrrrr : SlotT := [(0, ([1, 3, 4, 5], [4]))]
abbrev J_spec_PackMachine_rrrrr : JT := jn [] [(77, [(4, .s)])] []
noncomputable def O_spec_PackMachine_rrrrr (N : Nat) : Orc E := addFn 31 (o_spec_PutWord N) (addFn 32 (o_spec_Mix N) (addFn 30 (o_spec_l20Zero N) (addFn 29 (o_spec_l06Frame N) (addFn 28 (o_spec_l20Set N) (addFn 27 (o_spec_l20Ports_r N) (addFn 26 (o_spec_l20Words_r N) (addFn 25 (o_spec_l20Frames N) (addFn 24 (o_spec_MachineFault_rrrrr N) (noFn)))))))))
noncomputable def pa_spec_PackMachine_rrrrr__o_spec_PutWord (N : Nat) (G_spec_PutWord : ∀ {R : Type} (n : Int) (k : ByteArray → Option R), Option R) {R : Type} (args : List AV) (H : Hp E) (K : AV → Hp E → Option R) : Option R :=
 match args, H with
 | [(AV.sc (SV.int IntKind.i64 n))], [] => G_spec_PutWord n (fun s => K (AV.sc (SV.str s)) [])
 | _, _ => none
noncomputable def pa_spec_PackMachine_rrrrr__o_spec_Mix (N : Nat) (G_spec_Mix : ∀ {R : Type} (s : ByteArray) (n : Int) (k : Int → Option R), Option R) {R : Type} (args : List AV) (H : Hp E) (K : AV → Hp E → Option R) : Option R :=
 match args, H with
 | [(AV.sc (SV.str s)), (AV.sc (SV.int IntKind.i64 n))], [] => G_spec_Mix s n (fun n5 => K (AV.sc (SV.int IntKind.i64 n5)) [])
 | _, _ => none
noncomputable def pa_spec_PackMachine_rrrrr__o_spec_l20Zero (N : Nat) (G_spec_l20Zero : ∀ {R : Type}  (k : Option R), Option R) {R : Type} (args : List AV) (H : Hp E) (K : AV → Hp E → Option R) : Option R :=
 match args, H with
 | [], [] => G_spec_l20Zero  (K (AV.sc (SV.str (Go.Eng.toBytes (Go.Eng.seg (List.replicate 256 (0 : Int)) 0 256)))) [])
 | _, _ => none
noncomputable def pa_spec_PackMachine_rrrrr__o_spec_l06Frame (N : Nat) (G_spec_l06Frame : ∀ {R : Type} (s : ByteArray) (n : Int) (k : ByteArray → Option R), Option R) {R : Type} (args : List AV) (H : Hp E) (K : AV → Hp E → Option R) : Option R :=
 match args, H with
 | [(AV.sc (SV.str s)), (AV.sc (SV.int IntKind.i64 n))], [] => G_spec_l06Frame s n (fun s1 => K (AV.sc (SV.str s1)) [])
 | _, _ => none
noncomputable def pa_spec_PackMachine_rrrrr__o_spec_l20Set (N : Nat) (G_spec_l20Set : ∀ {R : Type} (s : ByteArray) (s1 : ByteArray) (k : ByteArray → Option R), Option R) {R : Type} (args : List AV) (H : Hp E) (K : AV → Hp E → Option R) : Option R :=
 match args, H with
 | [(AV.sc (SV.str s)), (AV.sc (SV.str s1))], [] => G_spec_l20Set s s1 (fun s9 => K (AV.sc (SV.str s9)) [])
 | _, _ => none
noncomputable def pa_spec_PackMachine_rrrrr__o_spec_l20Ports_r (N : Nat) (G_spec_l20Ports_r : ∀ {R : Type} (b : Bool) (l : List PortValue) (k : ByteArray → Option R), Option R) {R : Type} (args : List AV) (H : Hp E) (K : AV → Hp E → Option R) : Option R :=
 match args, H with
 | [(AV.sc (SV.slc 0 none b))], [(some (HE.mk true (HB.rows (B.iPortValue l))))] => G_spec_l20Ports_r b l (fun s4 => K (AV.sc (SV.str s4)) [(some (HE.mk true (HB.rows (B.iPortValue l))))])
 | _, _ => none
noncomputable def pa_spec_PackMachine_rrrrr__o_spec_l20Words_r (N : Nat) (G_spec_l20Words_r : ∀ {R : Type} (b : Bool) (l : List Int) (k : ByteArray → Option R), Option R) {R : Type} (args : List AV) (H : Hp E) (K : AV → Hp E → Option R) : Option R :=
 match args, H with
 | [(AV.sc (SV.slc 0 none b))], [(some (HE.mk true (HB.rows (B.i64 l))))] => G_spec_l20Words_r b l (fun s3 => K (AV.sc (SV.str s3)) [(some (HE.mk true (HB.rows (B.i64 l))))])
 | _, _ => none
noncomputable def pa_spec_PackMachine_rrrrr__o_spec_l20Frames (N : Nat) (G_spec_l20Frames : ∀ {R : Type} (s : ByteArray) (k : Int → Option R), Option R) {R : Type} (args : List AV) (H : Hp E) (K : AV → Hp E → Option R) : Option R :=
 match args, H with
 | [(AV.sc (SV.str s))], [] => G_spec_l20Frames s (fun n => K (AV.sc (SV.int IntKind.i64 n)) [])
 | _, _ => none
noncomputable def pa_spec_PackMachine_rrrrr__o_spec_MachineFault_rrrrr (N : Nat) (G_spec_MachineFault_rrrrr : ∀ {R : Type} (n : Int) (b : Bool) (n1 : Int) (b1 : Bool) (b2 : Bool) (s : ByteArray) (n2 : Int) (n3 : Int) (n4 : Int) (b3 : Bool) (b4 : Bool) (n5 : Int) (l : List Int) (l1 : List Int) (l2 : List Int) (l3 : List PortValue) (l4 : List PortValue) (k : Int → Option R), Option R) {R : Type} (args : List AV) (H : Hp E) (K : AV → Hp E → Option R) : Option R :=
 match args, H with
 | [(AV.agg [(SV.int IntKind.i64 n), (SV.slc 0 none b), (SV.int IntKind.i64 n1), (SV.slc 1 none b1), (SV.slc 2 none b2), (SV.str s), (SV.int IntKind.i64 n2), (SV.int IntKind.i64 n3), (SV.int IntKind.i64 n4), (SV.slc 3 none b3), (SV.slc 4 none b4), (SV.int IntKind.i64 n5)])], [(some (HE.mk true (HB.rows (B.i64 l)))), (some (HE.mk true (HB.rows (B.i64 l1)))), (some (HE.mk true (HB.rows (B.i64 l2)))), (some (HE.mk true (HB.rows (B.iPortValue l3)))), (some (HE.mk true (HB.rows (B.iPortValue l4))))] => G_spec_MachineFault_rrrrr n b n1 b1 b2 s n2 n3 n4 b3 b4 n5 l l1 l2 l3 l4 (fun n7 => K (AV.sc (SV.int IntKind.i64 n7)) [(some (HE.mk true (HB.rows (B.i64 l)))), (some (HE.mk true (HB.rows (B.i64 l1)))), (some (HE.mk true (HB.rows (B.i64 l2)))), (some (HE.mk true (HB.rows (B.iPortValue l3)))), (some (HE.mk true (HB.rows (B.iPortValue l4))))])
 | _, _ => none
noncomputable def OA_spec_PackMachine_rrrrr (N : Nat) (G_spec_PutWord : ∀ {R : Type} (n : Int) (k : ByteArray → Option R), Option R) (G_spec_Mix : ∀ {R : Type} (s : ByteArray) (n : Int) (k : Int → Option R), Option R) (G_spec_l20Zero : ∀ {R : Type}  (k : Option R), Option R) (G_spec_l06Frame : ∀ {R : Type} (s : ByteArray) (n : Int) (k : ByteArray → Option R), Option R) (G_spec_l20Set : ∀ {R : Type} (s : ByteArray) (s1 : ByteArray) (k : ByteArray → Option R), Option R) (G_spec_l20Ports_r : ∀ {R : Type} (b : Bool) (l : List PortValue) (k : ByteArray → Option R), Option R) (G_spec_l20Words_r : ∀ {R : Type} (b : Bool) (l : List Int) (k : ByteArray → Option R), Option R) (G_spec_l20Frames : ∀ {R : Type} (s : ByteArray) (k : Int → Option R), Option R) (G_spec_MachineFault_rrrrr : ∀ {R : Type} (n : Int) (b : Bool) (n1 : Int) (b1 : Bool) (b2 : Bool) (s : ByteArray) (n2 : Int) (n3 : Int) (n4 : Int) (b3 : Bool) (b4 : Bool) (n5 : Int) (l : List Int) (l1 : List Int) (l2 : List Int) (l3 : List PortValue) (l4 : List PortValue) (k : Int → Option R), Option R) : Orc E := addFn 31 (pa_spec_PackMachine_rrrrr__o_spec_PutWord N G_spec_PutWord) (addFn 32 (pa_spec_PackMachine_rrrrr__o_spec_Mix N G_spec_Mix) (addFn 30 (pa_spec_PackMachine_rrrrr__o_spec_l20Zero N G_spec_l20Zero) (addFn 29 (pa_spec_PackMachine_rrrrr__o_spec_l06Frame N G_spec_l06Frame) (addFn 28 (pa_spec_PackMachine_rrrrr__o_spec_l20Set N G_spec_l20Set) (addFn 27 (pa_spec_PackMachine_rrrrr__o_spec_l20Ports_r N G_spec_l20Ports_r) (addFn 26 (pa_spec_PackMachine_rrrrr__o_spec_l20Words_r N G_spec_l20Words_r) (addFn 25 (pa_spec_PackMachine_rrrrr__o_spec_l20Frames N G_spec_l20Frames) (addFn 24 (pa_spec_PackMachine_rrrrr__o_spec_MachineFault_rrrrr N G_spec_MachineFault_rrrrr) (noFn)))))))))
theorem O_spec_PackMachine_rrrrr_ok (N : Nat) : OrcOk (O_spec_PackMachine_rrrrr N) := addFn_ok (o_spec_PutWord_ok N) (addFn_ok (o_spec_Mix_ok N) (addFn_ok (o_spec_l20Zero_ok N) (addFn_ok (o_spec_l06Frame_ok N) (addFn_ok (o_spec_l20Set_ok N) (addFn_ok (o_spec_l20Ports_r_ok N) (addFn_ok (o_spec_l20Words_r_ok N) (addFn_ok (o_spec_l20Frames_ok N) (addFn_ok (o_spec_MachineFault_rrrrr_ok N) (noFn_ok)))))))))
noncomputable def s_spec_PackMachine_rrrrr_0 (N : Nat) {R : Type} (n8 : Int) (l5 : List Int) (l6 : List Int) (l7 : List Int) (l8 : List PortValue) (l9 : List PortValue) (n10 : Int) (b5 : Bool) (n11 : Int) (b6 : Bool) (b7 : Bool) (s9 : ByteArray) (n12 : Int) (n13 : Int) (n14 : Int) (b8 : Bool) (b9 : Bool) (n15 : Int) (s8 : ByteArray) (n9 : Int) (ag : ByteArray → Int → Option R)  (kN : ByteArray → Option R) : Option R :=
 (cond (decide ((n9 < n8)))
 (g_spec_l06Frame N s9 n9 fun s10 =>
 (g_spec_l20Zero N 
 (oK (cond (!(decide ((s10 = (Go.Eng.toBytes (Go.Eng.seg (List.replicate 256 (0 : Int)) 0 256))))))
 (g_spec_l06Frame N s9 n9 fun s11 =>
 (cond (Nat.ble ((ByteArray.size s8) + (ByteArray.size s11)) 9223372036854775807)
 (some (s8 ++ s11))
 none))
 (some s8)) fun j =>
 (ag j (IntKind.wrap IntKind.i64 (n9 + (1 : Int)))))))
 (kN s8))
noncomputable def ga_s_spec_PackMachine_rrrrr_0 (N : Nat) (G_spec_PutWord : ∀ {R : Type} (n : Int) (k : ByteArray → Option R), Option R) (G_spec_Mix : ∀ {R : Type} (s : ByteArray) (n : Int) (k : Int → Option R), Option R) (G_spec_l20Zero : ∀ {R : Type}  (k : Option R), Option R) (G_spec_l06Frame : ∀ {R : Type} (s : ByteArray) (n : Int) (k : ByteArray → Option R), Option R) (G_spec_l20Set : ∀ {R : Type} (s : ByteArray) (s1 : ByteArray) (k : ByteArray → Option R), Option R) (G_spec_l20Ports_r : ∀ {R : Type} (b : Bool) (l : List PortValue) (k : ByteArray → Option R), Option R) (G_spec_l20Words_r : ∀ {R : Type} (b : Bool) (l : List Int) (k : ByteArray → Option R), Option R) (G_spec_l20Frames : ∀ {R : Type} (s : ByteArray) (k : Int → Option R), Option R) (G_spec_MachineFault_rrrrr : ∀ {R : Type} (n : Int) (b : Bool) (n1 : Int) (b1 : Bool) (b2 : Bool) (s : ByteArray) (n2 : Int) (n3 : Int) (n4 : Int) (b3 : Bool) (b4 : Bool) (n5 : Int) (l : List Int) (l1 : List Int) (l2 : List Int) (l3 : List PortValue) (l4 : List PortValue) (k : Int → Option R), Option R) {R : Type} (n8 : Int) (l5 : List Int) (l6 : List Int) (l7 : List Int) (l8 : List PortValue) (l9 : List PortValue) (n10 : Int) (b5 : Bool) (n11 : Int) (b6 : Bool) (b7 : Bool) (s9 : ByteArray) (n12 : Int) (n13 : Int) (n14 : Int) (b8 : Bool) (b9 : Bool) (n15 : Int) (s8 : ByteArray) (n9 : Int) (ag : ByteArray → Int → Option R)  (kN : ByteArray → Option R) : Option R :=
 (cond (decide ((n9 < n8)))
 (G_spec_l06Frame s9 n9 fun s10 =>
 (G_spec_l20Zero 
 (oK (cond (!(decide ((s10 = (Go.Eng.toBytes (Go.Eng.seg (List.replicate 256 (0 : Int)) 0 256))))))
 (G_spec_l06Frame s9 n9 fun s11 =>
 (cond (Nat.ble ((ByteArray.size s8) + (ByteArray.size s11)) 9223372036854775807)
 (some (s8 ++ s11))
 none))
 (some s8)) fun j =>
 (ag j (IntKind.wrap IntKind.i64 (n9 + (1 : Int)))))))
 (kN s8))
noncomputable def l_spec_PackMachine_rrrrr_0 (N : Nat) {R : Type} (n8 : Int) (l5 : List Int) (l6 : List Int) (l7 : List Int) (l8 : List PortValue) (l9 : List PortValue) (n10 : Int) (b5 : Bool) (n11 : Int) (b6 : Bool) (b7 : Bool) (s9 : ByteArray) (n12 : Int) (n13 : Int) (n14 : Int) (b8 : Bool) (b9 : Bool) (n15 : Int) (kN : ByteArray → Option R) : Nat → ByteArray → Int → Option R
 | 0, _, _ => none
 | f + 1, s8, n9 => s_spec_PackMachine_rrrrr_0 N n8 l5 l6 l7 l8 l9 n10 b5 n11 b6 b7 s9 n12 n13 n14 b8 b9 n15 s8 n9 (fun s8 n9 => l_spec_PackMachine_rrrrr_0 N n8 l5 l6 l7 l8 l9 n10 b5 n11 b6 b7 s9 n12 n13 n14 b8 b9 n15 kN f s8 n9)  kN
noncomputable def c_spec_PackMachine_rrrrr_0 (N : Nat) {R : Type} (n8 : Int) (l5 : List Int) (l6 : List Int) (l7 : List Int) (l8 : List PortValue) (l9 : List PortValue) (n10 : Int) (b5 : Bool) (n11 : Int) (b6 : Bool) (b7 : Bool) (s9 : ByteArray) (n12 : Int) (n13 : Int) (n14 : Int) (b8 : Bool) (b9 : Bool) (n15 : Int) (s8 : ByteArray) (n9 : Int) (kN : ByteArray → Option R) : Option R := l_spec_PackMachine_rrrrr_0 N n8 l5 l6 l7 l8 l9 n10 b5 n11 b6 b7 s9 n12 n13 n14 b8 b9 n15 kN N s8 n9
theorem ea_se_spec_PackMachine_rrrrr_0 (N : Nat) (G_spec_PutWord : ∀ {R : Type} (n : Int) (k : ByteArray → Option R), Option R) (G_spec_Mix : ∀ {R : Type} (s : ByteArray) (n : Int) (k : Int → Option R), Option R) (G_spec_l20Zero : ∀ {R : Type}  (k : Option R), Option R) (G_spec_l06Frame : ∀ {R : Type} (s : ByteArray) (n : Int) (k : ByteArray → Option R), Option R) (G_spec_l20Set : ∀ {R : Type} (s : ByteArray) (s1 : ByteArray) (k : ByteArray → Option R), Option R) (G_spec_l20Ports_r : ∀ {R : Type} (b : Bool) (l : List PortValue) (k : ByteArray → Option R), Option R) (G_spec_l20Words_r : ∀ {R : Type} (b : Bool) (l : List Int) (k : ByteArray → Option R), Option R) (G_spec_l20Frames : ∀ {R : Type} (s : ByteArray) (k : Int → Option R), Option R) (G_spec_MachineFault_rrrrr : ∀ {R : Type} (n : Int) (b : Bool) (n1 : Int) (b1 : Bool) (b2 : Bool) (s : ByteArray) (n2 : Int) (n3 : Int) (n4 : Int) (b3 : Bool) (b4 : Bool) (n5 : Int) (l : List Int) (l1 : List Int) (l2 : List Int) (l3 : List PortValue) (l4 : List PortValue) (k : Int → Option R), Option R) {R : Type} (n8 : Int) (l5 : List Int) (l6 : List Int) (l7 : List Int) (l8 : List PortValue) (l9 : List PortValue) (n10 : Int) (b5 : Bool) (n11 : Int) (b6 : Bool) (b7 : Bool) (s9 : ByteArray) (n12 : Int) (n13 : Int) (n14 : Int) (b8 : Bool) (b9 : Bool) (n15 : Int) (s8 : ByteArray) (n9 : Int) (AG : List (Option AV) → Hp E → Option R) (KL : Ex → List (Option AV) → Hp E → Option R) :
    iterStep (E := E) (OA_spec_PackMachine_rrrrr N G_spec_PutWord G_spec_Mix G_spec_l20Zero G_spec_l06Frame G_spec_l20Set G_spec_l20Ports_r G_spec_l20Words_r G_spec_l20Frames G_spec_MachineFault_rrrrr) (fun {R} => LI (noIt) 5 93 sl_spec_PackMachine_rrrrr (R := R)) J_spec_PackMachine_rrrrr 5 93 0 [1, 3, 4, 5] [4] (body Try.f7 0) AG KL [(some (AV.sc (SV.ptr 5 0 0))), (some (AV.sc (SV.int IntKind.i64 n8))), (some (AV.sc (SV.str s8))), (some (AV.sc (SV.int IntKind.i64 n9)))] [(some (HE.mk true (HB.rows (B.i64 l5)))), (some (HE.mk true (HB.rows (B.i64 l6)))), (some (HE.mk true (HB.rows (B.i64 l7)))), (some (HE.mk true (HB.rows (B.iPortValue l8)))), (some (HE.mk true (HB.rows (B.iPortValue l9)))), (some (HE.mk false (HB.exp none [(SV.int IntKind.i64 n10), (SV.slc 0 none b5), (SV.int IntKind.i64 n11), (SV.slc 1 none b6), (SV.slc 2 none b7), (SV.str s9), (SV.int IntKind.i64 n12), (SV.int IntKind.i64 n13), (SV.int IntKind.i64 n14), (SV.slc 3 none b8), (SV.slc 4 none b9), (SV.int IntKind.i64 n15)])))] =
      ga_s_spec_PackMachine_rrrrr_0 N G_spec_PutWord G_spec_Mix G_spec_l20Zero G_spec_l06Frame G_spec_l20Set G_spec_l20Ports_r G_spec_l20Words_r G_spec_l20Frames G_spec_MachineFault_rrrrr n8 l5 l6 l7 l8 l9 n10 b5 n11 b6 b7 s9 n12 n13 n14 b8 b9 n15 s8 n9 (fun s8 n9 => AG [(some (AV.sc (SV.ptr 5 0 0))), (some (AV.sc (SV.int IntKind.i64 n8))), (some (AV.sc (SV.str s8))), (some (AV.sc (SV.int IntKind.i64 n9)))] [(some (HE.mk true (HB.rows (B.i64 l5)))), (some (HE.mk true (HB.rows (B.i64 l6)))), (some (HE.mk true (HB.rows (B.i64 l7)))), (some (HE.mk true (HB.rows (B.iPortValue l8)))), (some (HE.mk true (HB.rows (B.iPortValue l9)))), (some (HE.mk false (HB.exp none [(SV.int IntKind.i64 n10), (SV.slc 0 none b5), (SV.int IntKind.i64 n11), (SV.slc 1 none b6), (SV.slc 2 none b7), (SV.str s9), (SV.int IntKind.i64 n12), (SV.int IntKind.i64 n13), (SV.int IntKind.i64 n14), (SV.slc 3 none b8), (SV.slc 4 none b9), (SV.int IntKind.i64 n15)])))])  (fun s15 => KL Ex.normal [(some (AV.sc (SV.str s15)))] [(some (HE.mk true (HB.rows (B.i64 l5)))), (some (HE.mk true (HB.rows (B.i64 l6)))), (some (HE.mk true (HB.rows (B.i64 l7)))), (some (HE.mk true (HB.rows (B.iPortValue l8)))), (some (HE.mk true (HB.rows (B.iPortValue l9))))]) := by kernel_rfl
theorem se_spec_PackMachine_rrrrr_0 (N : Nat) {R : Type} (n8 : Int) (l5 : List Int) (l6 : List Int) (l7 : List Int) (l8 : List PortValue) (l9 : List PortValue) (n10 : Int) (b5 : Bool) (n11 : Int) (b6 : Bool) (b7 : Bool) (s9 : ByteArray) (n12 : Int) (n13 : Int) (n14 : Int) (b8 : Bool) (b9 : Bool) (n15 : Int) (s8 : ByteArray) (n9 : Int) (AG : List (Option AV) → Hp E → Option R) (KL : Ex → List (Option AV) → Hp E → Option R) :
    iterStep (E := E) (O_spec_PackMachine_rrrrr N) (fun {R} => LI (noIt) 5 93 sl_spec_PackMachine_rrrrr (R := R)) J_spec_PackMachine_rrrrr 5 93 0 [1, 3, 4, 5] [4] (body Try.f7 0) AG KL [(some (AV.sc (SV.ptr 5 0 0))), (some (AV.sc (SV.int IntKind.i64 n8))), (some (AV.sc (SV.str s8))), (some (AV.sc (SV.int IntKind.i64 n9)))] [(some (HE.mk true (HB.rows (B.i64 l5)))), (some (HE.mk true (HB.rows (B.i64 l6)))), (some (HE.mk true (HB.rows (B.i64 l7)))), (some (HE.mk true (HB.rows (B.iPortValue l8)))), (some (HE.mk true (HB.rows (B.iPortValue l9)))), (some (HE.mk false (HB.exp none [(SV.int IntKind.i64 n10), (SV.slc 0 none b5), (SV.int IntKind.i64 n11), (SV.slc 1 none b6), (SV.slc 2 none b7), (SV.str s9), (SV.int IntKind.i64 n12), (SV.int IntKind.i64 n13), (SV.int IntKind.i64 n14), (SV.slc 3 none b8), (SV.slc 4 none b9), (SV.int IntKind.i64 n15)])))] =
      s_spec_PackMachine_rrrrr_0 N n8 l5 l6 l7 l8 l9 n10 b5 n11 b6 b7 s9 n12 n13 n14 b8 b9 n15 s8 n9 (fun s8 n9 => AG [(some (AV.sc (SV.ptr 5 0 0))), (some (AV.sc (SV.int IntKind.i64 n8))), (some (AV.sc (SV.str s8))), (some (AV.sc (SV.int IntKind.i64 n9)))] [(some (HE.mk true (HB.rows (B.i64 l5)))), (some (HE.mk true (HB.rows (B.i64 l6)))), (some (HE.mk true (HB.rows (B.i64 l7)))), (some (HE.mk true (HB.rows (B.iPortValue l8)))), (some (HE.mk true (HB.rows (B.iPortValue l9)))), (some (HE.mk false (HB.exp none [(SV.int IntKind.i64 n10), (SV.slc 0 none b5), (SV.int IntKind.i64 n11), (SV.slc 1 none b6), (SV.slc 2 none b7), (SV.str s9), (SV.int IntKind.i64 n12), (SV.int IntKind.i64 n13), (SV.int IntKind.i64 n14), (SV.slc 3 none b8), (SV.slc 4 none b9), (SV.int IntKind.i64 n15)])))])  (fun s15 => KL Ex.normal [(some (AV.sc (SV.str s15)))] [(some (HE.mk true (HB.rows (B.i64 l5)))), (some (HE.mk true (HB.rows (B.i64 l6)))), (some (HE.mk true (HB.rows (B.i64 l7)))), (some (HE.mk true (HB.rows (B.iPortValue l8)))), (some (HE.mk true (HB.rows (B.iPortValue l9))))]) := castPr (by kernel_rfl) (ea_se_spec_PackMachine_rrrrr_0 N (g_spec_PutWord N) (g_spec_Mix N) (g_spec_l20Zero N) (g_spec_l06Frame N) (g_spec_l20Set N) (g_spec_l20Ports_r N) (g_spec_l20Words_r N) (g_spec_l20Frames N) (g_spec_MachineFault_rrrrr N) n8 l5 l6 l7 l8 l9 n10 b5 n11 b6 b7 s9 n12 n13 n14 b8 b9 n15 s8 n9 AG KL)
theorem le_spec_PackMachine_rrrrr_0 (N : Nat) {R : Type} (n8 : Int) (l5 : List Int) (l6 : List Int) (l7 : List Int) (l8 : List PortValue) (l9 : List PortValue) (n10 : Int) (b5 : Bool) (n11 : Int) (b6 : Bool) (b7 : Bool) (s9 : ByteArray) (n12 : Int) (n13 : Int) (n14 : Int) (b8 : Bool) (b9 : Bool) (n15 : Int) (KL : Ex → List (Option AV) → Hp E → Option R) : ∀ (f : Nat), ∀ (s8 : ByteArray) (n9 : Int), iterK (E := E) (O_spec_PackMachine_rrrrr N) (fun {R} => LI (noIt) 5 93 sl_spec_PackMachine_rrrrr (R := R)) J_spec_PackMachine_rrrrr 5 93 0 [1, 3, 4, 5] [4] (body Try.f7 0) f [(some (AV.sc (SV.ptr 5 0 0))), (some (AV.sc (SV.int IntKind.i64 n8))), (some (AV.sc (SV.str s8))), (some (AV.sc (SV.int IntKind.i64 n9)))] [(some (HE.mk true (HB.rows (B.i64 l5)))), (some (HE.mk true (HB.rows (B.i64 l6)))), (some (HE.mk true (HB.rows (B.i64 l7)))), (some (HE.mk true (HB.rows (B.iPortValue l8)))), (some (HE.mk true (HB.rows (B.iPortValue l9)))), (some (HE.mk false (HB.exp none [(SV.int IntKind.i64 n10), (SV.slc 0 none b5), (SV.int IntKind.i64 n11), (SV.slc 1 none b6), (SV.slc 2 none b7), (SV.str s9), (SV.int IntKind.i64 n12), (SV.int IntKind.i64 n13), (SV.int IntKind.i64 n14), (SV.slc 3 none b8), (SV.slc 4 none b9), (SV.int IntKind.i64 n15)])))] KL = l_spec_PackMachine_rrrrr_0 N n8 l5 l6 l7 l8 l9 n10 b5 n11 b6 b7 s9 n12 n13 n14 b8 b9 n15 (fun s15 => KL Ex.normal [(some (AV.sc (SV.str s15)))] [(some (HE.mk true (HB.rows (B.i64 l5)))), (some (HE.mk true (HB.rows (B.i64 l6)))), (some (HE.mk true (HB.rows (B.i64 l7)))), (some (HE.mk true (HB.rows (B.iPortValue l8)))), (some (HE.mk true (HB.rows (B.iPortValue l9))))]) f s8 n9 := by
  intro f
  induction f with
  | zero => intros; rfl
  | succ f ih =>
    intro s8 n9
    rw [iterK_succ, se_spec_PackMachine_rrrrr_0]
    exact (congrArg (fun z0 => s_spec_PackMachine_rrrrr_0 N n8 l5 l6 l7 l8 l9 n10 b5 n11 b6 b7 s9 n12 n13 n14 b8 b9 n15 s8 n9 z0 (fun s15 => KL Ex.normal [(some (AV.sc (SV.str s15)))] [(some (HE.mk true (HB.rows (B.i64 l5)))), (some (HE.mk true (HB.rows (B.i64 l6)))), (some (HE.mk true (HB.rows (B.i64 l7)))), (some (HE.mk true (HB.rows (B.iPortValue l8)))), (some (HE.mk true (HB.rows (B.iPortValue l9))))])) (funext fun s8 => funext fun n9 => ih s8 n9))
noncomputable def i_spec_PackMachine_rrrrr_0 (N : Nat) {R : Type} (vs : List (Option AV)) (H : Hp E) (KL : Ex → List (Option AV) → Hp E → Option R) : Option R :=
 match vs, H with
 | [(some (AV.sc (SV.ptr 5 0 0))), (some (AV.sc (SV.int IntKind.i64 n8))), (some (AV.sc (SV.str s8))), (some (AV.sc (SV.int IntKind.i64 n9)))], [(some (HE.mk true (HB.rows (B.i64 l5)))), (some (HE.mk true (HB.rows (B.i64 l6)))), (some (HE.mk true (HB.rows (B.i64 l7)))), (some (HE.mk true (HB.rows (B.iPortValue l8)))), (some (HE.mk true (HB.rows (B.iPortValue l9)))), (some (HE.mk false (HB.exp none [(SV.int IntKind.i64 n10), (SV.slc 0 none b5), (SV.int IntKind.i64 n11), (SV.slc 1 none b6), (SV.slc 2 none b7), (SV.str s9), (SV.int IntKind.i64 n12), (SV.int IntKind.i64 n13), (SV.int IntKind.i64 n14), (SV.slc 3 none b8), (SV.slc 4 none b9), (SV.int IntKind.i64 n15)])))] => c_spec_PackMachine_rrrrr_0 N n8 l5 l6 l7 l8 l9 n10 b5 n11 b6 b7 s9 n12 n13 n14 b8 b9 n15 s8 n9 (fun s16 => KL Ex.normal [(some (AV.sc (SV.str s16)))] [(some (HE.mk true (HB.rows (B.i64 l5)))), (some (HE.mk true (HB.rows (B.i64 l6)))), (some (HE.mk true (HB.rows (B.i64 l7)))), (some (HE.mk true (HB.rows (B.iPortValue l8)))), (some (HE.mk true (HB.rows (B.iPortValue l9))))])
 | _, _ => none
noncomputable def IT_spec_PackMachine_rrrrr_0 (N : Nat) : Its E := addIt 0 (i_spec_PackMachine_rrrrr_0 N) (noIt)
theorem IT_spec_PackMachine_rrrrr_0_ok (N : Nat) : ItOk (IT_spec_PackMachine_rrrrr_0 N) 5 93 sl_spec_PackMachine_rrrrr (lsB Try.f7 [0]) :=
  addItB_ok (inner := []) ok (O_spec_PackMachine_rrrrr_ok N) (jn_ok _ _ _) (noIt_ok) rfl (by kernel_rfl) rfl fun vs H KL r h => by
    unfold i_spec_PackMachine_rrrrr_0 at h
    split at h
    · exact ⟨_, (le_spec_PackMachine_rrrrr_0 N _ _ _ _ _ _ _ _ _ _ _ _ _ _ _ _ _ _ KL N _ _).trans h⟩
    · cases h
noncomputable def g_spec_PackMachine_rrrrr (N : Nat) {R : Type} (n : Int) (b : Bool) (n1 : Int) (b1 : Bool) (b2 : Bool) (s : ByteArray) (n2 : Int) (n3 : Int) (n4 : Int) (b3 : Bool) (b4 : Bool) (n5 : Int) (l : List Int) (l1 : List Int) (l2 : List Int) (l3 : List PortValue) (l4 : List PortValue) (k : ByteArray → Option R) : Option R :=
 (g_spec_MachineFault_rrrrr N n b n1 b1 b2 s n2 n3 n4 b3 b4 n5 l l1 l2 l3 l4 fun n6 =>
 (cond (n6 != (0 : Int))
 (k (ByteArray.mk (List.toArray [])))
 (g_spec_l20Frames N s fun n7 =>
 (g_spec_l20Words_r N false [n7, (((List.length l3) : Nat) : Int), (((List.length l4) : Nat) : Int), n, n1, n2, n3, (Int.fdiv n3 (4294967296 : Int)), n4, n5] fun s1 =>
 (cond (Nat.ble (4 + (ByteArray.size s1)) 9223372036854775807)
 (g_spec_l20Words_r N b l fun s2 =>
 (cond (Nat.ble ((ByteArray.size ((ByteArray.mk (List.toArray [(86 : UInt8), (77 : UInt8), (49 : UInt8), (10 : UInt8)])) ++ s1)) + (ByteArray.size s2)) 9223372036854775807)
 (g_spec_l20Words_r N b1 l1 fun s3 =>
 (cond (Nat.ble ((ByteArray.size (((ByteArray.mk (List.toArray [(86 : UInt8), (77 : UInt8), (49 : UInt8), (10 : UInt8)])) ++ s1) ++ s2)) + (ByteArray.size s3)) 9223372036854775807)
 (g_spec_l20Words_r N b2 l2 fun s4 =>
 (cond (Nat.ble ((ByteArray.size ((((ByteArray.mk (List.toArray [(86 : UInt8), (77 : UInt8), (49 : UInt8), (10 : UInt8)])) ++ s1) ++ s2) ++ s3)) + (ByteArray.size s4)) 9223372036854775807)
 (g_spec_l20Ports_r N b3 l3 fun s5 =>
 (cond (Nat.ble ((ByteArray.size (((((ByteArray.mk (List.toArray [(86 : UInt8), (77 : UInt8), (49 : UInt8), (10 : UInt8)])) ++ s1) ++ s2) ++ s3) ++ s4)) + (ByteArray.size s5)) 9223372036854775807)
 (g_spec_l20Ports_r N b4 l4 fun s6 =>
 (cond (Nat.ble ((ByteArray.size ((((((ByteArray.mk (List.toArray [(86 : UInt8), (77 : UInt8), (49 : UInt8), (10 : UInt8)])) ++ s1) ++ s2) ++ s3) ++ s4) ++ s5)) + (ByteArray.size s6)) 9223372036854775807)
 (cond (((decide (((((ByteArray.size s) : Nat) : Int) = (((ByteArray.size s) : Nat) : Int)))) && true) && (Go.Eng.roomOk (Int.toNat (((ByteArray.size s) : Nat) : Int)) 1))
 (cond (Nat.ble (0 + (List.length (List.replicate (Int.toNat (((ByteArray.size s) : Nat) : Int)) (0 : Int)))) (List.length (List.replicate (Int.toNat (((ByteArray.size s) : Nat) : Int)) (0 : Int))))
 (g_spec_l20Set N s (Go.Eng.toBytes (Go.Eng.seg (List.replicate (Int.toNat (((ByteArray.size s) : Nat) : Int)) (0 : Int)) 0 (List.length (List.replicate (Int.toNat (((ByteArray.size s) : Nat) : Int)) (0 : Int))))) fun s7 =>
 (cond (Nat.ble ((ByteArray.size (((((((ByteArray.mk (List.toArray [(86 : UInt8), (77 : UInt8), (49 : UInt8), (10 : UInt8)])) ++ s1) ++ s2) ++ s3) ++ s4) ++ s5) ++ s6)) + (ByteArray.size s7)) 9223372036854775807)
 (c_spec_PackMachine_rrrrr_0 N n7 l l1 l2 l3 l4 n b n1 b1 b2 s n2 n3 n4 b3 b4 n5 ((((((((ByteArray.mk (List.toArray [(86 : UInt8), (77 : UInt8), (49 : UInt8), (10 : UInt8)])) ++ s1) ++ s2) ++ s3) ++ s4) ++ s5) ++ s6) ++ s7) (0 : Int) fun s12 =>
 (cond (decide (((IntKind.wrap IntKind.i64 ((((ByteArray.size s12) : Nat) : Int) + (4 : Int))) > (65536 : Int))))
 (k (ByteArray.mk (List.toArray [])))
 (g_spec_Mix N s12 (61 : Int) fun n16 =>
 (g_spec_PutWord N n16 fun s13 =>
 (cond (Nat.ble ((ByteArray.size s12) + (ByteArray.size s13)) 9223372036854775807)
 (k (s12 ++ s13))
 none)))))
 none))
 none)
 none)
 none))
 none))
 none))
 none))
 none))
 none)))))
noncomputable def ga_g_spec_PackMachine_rrrrr (N : Nat) (G_spec_PutWord : ∀ {R : Type} (n : Int) (k : ByteArray → Option R), Option R) (G_spec_Mix : ∀ {R : Type} (s : ByteArray) (n : Int) (k : Int → Option R), Option R) (G_spec_l20Zero : ∀ {R : Type}  (k : Option R), Option R) (G_spec_l06Frame : ∀ {R : Type} (s : ByteArray) (n : Int) (k : ByteArray → Option R), Option R) (G_spec_l20Set : ∀ {R : Type} (s : ByteArray) (s1 : ByteArray) (k : ByteArray → Option R), Option R) (G_spec_l20Ports_r : ∀ {R : Type} (b : Bool) (l : List PortValue) (k : ByteArray → Option R), Option R) (G_spec_l20Words_r : ∀ {R : Type} (b : Bool) (l : List Int) (k : ByteArray → Option R), Option R) (G_spec_l20Frames : ∀ {R : Type} (s : ByteArray) (k : Int → Option R), Option R) (G_spec_MachineFault_rrrrr : ∀ {R : Type} (n : Int) (b : Bool) (n1 : Int) (b1 : Bool) (b2 : Bool) (s : ByteArray) (n2 : Int) (n3 : Int) (n4 : Int) (b3 : Bool) (b4 : Bool) (n5 : Int) (l : List Int) (l1 : List Int) (l2 : List Int) (l3 : List PortValue) (l4 : List PortValue) (k : Int → Option R), Option R) {R : Type} (n : Int) (b : Bool) (n1 : Int) (b1 : Bool) (b2 : Bool) (s : ByteArray) (n2 : Int) (n3 : Int) (n4 : Int) (b3 : Bool) (b4 : Bool) (n5 : Int) (l : List Int) (l1 : List Int) (l2 : List Int) (l3 : List PortValue) (l4 : List PortValue) (k : ByteArray → Option R) : Option R :=
 (G_spec_MachineFault_rrrrr n b n1 b1 b2 s n2 n3 n4 b3 b4 n5 l l1 l2 l3 l4 fun n6 =>
 (cond (n6 != (0 : Int))
 (k (ByteArray.mk (List.toArray [])))
 (G_spec_l20Frames s fun n7 =>
 (G_spec_l20Words_r false [n7, (((List.length l3) : Nat) : Int), (((List.length l4) : Nat) : Int), n, n1, n2, n3, (Int.fdiv n3 (4294967296 : Int)), n4, n5] fun s1 =>
 (cond (Nat.ble (4 + (ByteArray.size s1)) 9223372036854775807)
 (G_spec_l20Words_r b l fun s2 =>
 (cond (Nat.ble ((ByteArray.size ((ByteArray.mk (List.toArray [(86 : UInt8), (77 : UInt8), (49 : UInt8), (10 : UInt8)])) ++ s1)) + (ByteArray.size s2)) 9223372036854775807)
 (G_spec_l20Words_r b1 l1 fun s3 =>
 (cond (Nat.ble ((ByteArray.size (((ByteArray.mk (List.toArray [(86 : UInt8), (77 : UInt8), (49 : UInt8), (10 : UInt8)])) ++ s1) ++ s2)) + (ByteArray.size s3)) 9223372036854775807)
 (G_spec_l20Words_r b2 l2 fun s4 =>
 (cond (Nat.ble ((ByteArray.size ((((ByteArray.mk (List.toArray [(86 : UInt8), (77 : UInt8), (49 : UInt8), (10 : UInt8)])) ++ s1) ++ s2) ++ s3)) + (ByteArray.size s4)) 9223372036854775807)
 (G_spec_l20Ports_r b3 l3 fun s5 =>
 (cond (Nat.ble ((ByteArray.size (((((ByteArray.mk (List.toArray [(86 : UInt8), (77 : UInt8), (49 : UInt8), (10 : UInt8)])) ++ s1) ++ s2) ++ s3) ++ s4)) + (ByteArray.size s5)) 9223372036854775807)
 (G_spec_l20Ports_r b4 l4 fun s6 =>
 (cond (Nat.ble ((ByteArray.size ((((((ByteArray.mk (List.toArray [(86 : UInt8), (77 : UInt8), (49 : UInt8), (10 : UInt8)])) ++ s1) ++ s2) ++ s3) ++ s4) ++ s5)) + (ByteArray.size s6)) 9223372036854775807)
 (cond (((decide (((((ByteArray.size s) : Nat) : Int) = (((ByteArray.size s) : Nat) : Int)))) && true) && (Go.Eng.roomOk (Int.toNat (((ByteArray.size s) : Nat) : Int)) 1))
 (cond (Nat.ble (0 + (List.length (List.replicate (Int.toNat (((ByteArray.size s) : Nat) : Int)) (0 : Int)))) (List.length (List.replicate (Int.toNat (((ByteArray.size s) : Nat) : Int)) (0 : Int))))
 (G_spec_l20Set s (Go.Eng.toBytes (Go.Eng.seg (List.replicate (Int.toNat (((ByteArray.size s) : Nat) : Int)) (0 : Int)) 0 (List.length (List.replicate (Int.toNat (((ByteArray.size s) : Nat) : Int)) (0 : Int))))) fun s7 =>
 (cond (Nat.ble ((ByteArray.size (((((((ByteArray.mk (List.toArray [(86 : UInt8), (77 : UInt8), (49 : UInt8), (10 : UInt8)])) ++ s1) ++ s2) ++ s3) ++ s4) ++ s5) ++ s6)) + (ByteArray.size s7)) 9223372036854775807)
 (c_spec_PackMachine_rrrrr_0 N n7 l l1 l2 l3 l4 n b n1 b1 b2 s n2 n3 n4 b3 b4 n5 ((((((((ByteArray.mk (List.toArray [(86 : UInt8), (77 : UInt8), (49 : UInt8), (10 : UInt8)])) ++ s1) ++ s2) ++ s3) ++ s4) ++ s5) ++ s6) ++ s7) (0 : Int) fun s12 =>
 (cond (decide (((IntKind.wrap IntKind.i64 ((((ByteArray.size s12) : Nat) : Int) + (4 : Int))) > (65536 : Int))))
 (k (ByteArray.mk (List.toArray [])))
 (G_spec_Mix s12 (61 : Int) fun n16 =>
 (G_spec_PutWord n16 fun s13 =>
 (cond (Nat.ble ((ByteArray.size s12) + (ByteArray.size s13)) 9223372036854775807)
 (k (s12 ++ s13))
 none)))))
 none))
 none)
 none)
 none))
 none))
 none))
 none))
 none))
 none)))))
theorem ea_e_spec_PackMachine_rrrrr (N : Nat) (G_spec_PutWord : ∀ {R : Type} (n : Int) (k : ByteArray → Option R), Option R) (G_spec_Mix : ∀ {R : Type} (s : ByteArray) (n : Int) (k : Int → Option R), Option R) (G_spec_l20Zero : ∀ {R : Type}  (k : Option R), Option R) (G_spec_l06Frame : ∀ {R : Type} (s : ByteArray) (n : Int) (k : ByteArray → Option R), Option R) (G_spec_l20Set : ∀ {R : Type} (s : ByteArray) (s1 : ByteArray) (k : ByteArray → Option R), Option R) (G_spec_l20Ports_r : ∀ {R : Type} (b : Bool) (l : List PortValue) (k : ByteArray → Option R), Option R) (G_spec_l20Words_r : ∀ {R : Type} (b : Bool) (l : List Int) (k : ByteArray → Option R), Option R) (G_spec_l20Frames : ∀ {R : Type} (s : ByteArray) (k : Int → Option R), Option R) (G_spec_MachineFault_rrrrr : ∀ {R : Type} (n : Int) (b : Bool) (n1 : Int) (b1 : Bool) (b2 : Bool) (s : ByteArray) (n2 : Int) (n3 : Int) (n4 : Int) (b3 : Bool) (b4 : Bool) (n5 : Int) (l : List Int) (l1 : List Int) (l2 : List Int) (l3 : List PortValue) (l4 : List PortValue) (k : Int → Option R), Option R) {R : Type} (n : Int) (b : Bool) (n1 : Int) (b1 : Bool) (b2 : Bool) (s : ByteArray) (n2 : Int) (n3 : Int) (n4 : Int) (b3 : Bool) (b4 : Bool) (n5 : Int) (l : List Int) (l1 : List Int) (l2 : List Int) (l3 : List PortValue) (l4 : List PortValue) (K : AV → Hp E → Option R) :
    runFnI (E := E) (OA_spec_PackMachine_rrrrr N G_spec_PutWord G_spec_Mix G_spec_l20Zero G_spec_l06Frame G_spec_l20Set G_spec_l20Ports_r G_spec_l20Words_r G_spec_l20Frames G_spec_MachineFault_rrrrr) (IT_spec_PackMachine_rrrrr_0 N) sl_spec_PackMachine_rrrrr J_spec_PackMachine_rrrrr Try.f7 [(AV.agg [(SV.int IntKind.i64 n), (SV.slc 0 none b), (SV.int IntKind.i64 n1), (SV.slc 1 none b1), (SV.slc 2 none b2), (SV.str s), (SV.int IntKind.i64 n2), (SV.int IntKind.i64 n3), (SV.int IntKind.i64 n4), (SV.slc 3 none b3), (SV.slc 4 none b4), (SV.int IntKind.i64 n5)])] [(some (HE.mk true (HB.rows (B.i64 l)))), (some (HE.mk true (HB.rows (B.i64 l1)))), (some (HE.mk true (HB.rows (B.i64 l2)))), (some (HE.mk true (HB.rows (B.iPortValue l3)))), (some (HE.mk true (HB.rows (B.iPortValue l4))))] K =
      ga_g_spec_PackMachine_rrrrr N G_spec_PutWord G_spec_Mix G_spec_l20Zero G_spec_l06Frame G_spec_l20Set G_spec_l20Ports_r G_spec_l20Words_r G_spec_l20Frames G_spec_MachineFault_rrrrr n b n1 b1 b2 s n2 n3 n4 b3 b4 n5 l l1 l2 l3 l4 (fun s14 => K (AV.sc (SV.str s14)) [(some (HE.mk true (HB.rows (B.i64 l)))), (some (HE.mk true (HB.rows (B.i64 l1)))), (some (HE.mk true (HB.rows (B.i64 l2)))), (some (HE.mk true (HB.rows (B.iPortValue l3)))), (some (HE.mk true (HB.rows (B.iPortValue l4))))]) := by kernel_rfl
theorem e_spec_PackMachine_rrrrr (N : Nat) {R : Type} (n : Int) (b : Bool) (n1 : Int) (b1 : Bool) (b2 : Bool) (s : ByteArray) (n2 : Int) (n3 : Int) (n4 : Int) (b3 : Bool) (b4 : Bool) (n5 : Int) (l : List Int) (l1 : List Int) (l2 : List Int) (l3 : List PortValue) (l4 : List PortValue) (K : AV → Hp E → Option R) :
    runFnI (E := E) (O_spec_PackMachine_rrrrr N) (IT_spec_PackMachine_rrrrr_0 N) sl_spec_PackMachine_rrrrr J_spec_PackMachine_rrrrr Try.f7 [(AV.agg [(SV.int IntKind.i64 n), (SV.slc 0 none b), (SV.int IntKind.i64 n1), (SV.slc 1 none b1), (SV.slc 2 none b2), (SV.str s), (SV.int IntKind.i64 n2), (SV.int IntKind.i64 n3), (SV.int IntKind.i64 n4), (SV.slc 3 none b3), (SV.slc 4 none b4), (SV.int IntKind.i64 n5)])] [(some (HE.mk true (HB.rows (B.i64 l)))), (some (HE.mk true (HB.rows (B.i64 l1)))), (some (HE.mk true (HB.rows (B.i64 l2)))), (some (HE.mk true (HB.rows (B.iPortValue l3)))), (some (HE.mk true (HB.rows (B.iPortValue l4))))] K =
      g_spec_PackMachine_rrrrr N n b n1 b1 b2 s n2 n3 n4 b3 b4 n5 l l1 l2 l3 l4 (fun s14 => K (AV.sc (SV.str s14)) [(some (HE.mk true (HB.rows (B.i64 l)))), (some (HE.mk true (HB.rows (B.i64 l1)))), (some (HE.mk true (HB.rows (B.i64 l2)))), (some (HE.mk true (HB.rows (B.iPortValue l3)))), (some (HE.mk true (HB.rows (B.iPortValue l4))))]) := castPr (by kernel_rfl) (ea_e_spec_PackMachine_rrrrr N (g_spec_PutWord N) (g_spec_Mix N) (g_spec_l20Zero N) (g_spec_l06Frame N) (g_spec_l20Set N) (g_spec_l20Ports_r N) (g_spec_l20Words_r N) (g_spec_l20Frames N) (g_spec_MachineFault_rrrrr N) n b n1 b1 b2 s n2 n3 n4 b3 b4 n5 l l1 l2 l3 l4 K)
noncomputable def o_spec_PackMachine_rrrrr (N : Nat) {R : Type} (args : List AV) (H : Hp E) (K : AV → Hp E → Option R) : Option R :=
 match args, H with
 | [(AV.agg [(SV.int IntKind.i64 n), (SV.slc 0 none b), (SV.int IntKind.i64 n1), (SV.slc 1 none b1), (SV.slc 2 none b2), (SV.str s), (SV.int IntKind.i64 n2), (SV.int IntKind.i64 n3), (SV.int IntKind.i64 n4), (SV.slc 3 none b3), (SV.slc 4 none b4), (SV.int IntKind.i64 n5)])], [(some (HE.mk true (HB.rows (B.i64 l)))), (some (HE.mk true (HB.rows (B.i64 l1)))), (some (HE.mk true (HB.rows (B.i64 l2)))), (some (HE.mk true (HB.rows (B.iPortValue l3)))), (some (HE.mk true (HB.rows (B.iPortValue l4))))] => g_spec_PackMachine_rrrrr N n b n1 b1 b2 s n2 n3 n4 b3 b4 n5 l l1 l2 l3 l4 (fun s14 => K (AV.sc (SV.str s14)) [(some (HE.mk true (HB.rows (B.i64 l)))), (some (HE.mk true (HB.rows (B.i64 l1)))), (some (HE.mk true (HB.rows (B.i64 l2)))), (some (HE.mk true (HB.rows (B.iPortValue l3)))), (some (HE.mk true (HB.rows (B.iPortValue l4))))])
 | _, _ => none
theorem o_spec_PackMachine_rrrrr_ok (N : Nat) : FnOk E 7 (o_spec_PackMachine_rrrrr N) := by
  intro R args H K r h
  unfold o_spec_PackMachine_rrrrr at h
  dsimp only at h
  split at h
  · exact fnB_ok (ids := [0]) (top := [0]) ok (O_spec_PackMachine_rrrrr_ok N) (jn_ok _ _ _) Try.func7 (by kernel_rfl) (IT := IT_spec_PackMachine_rrrrr_0 N) (sl := sl_spec_PackMachine_rrrrr) (J := J_spec_PackMachine_rrrrr) (K := K) (H := [(some (HE.mk true (HB.rows (B.i64 _)))), (some (HE.mk true (HB.rows (B.i64 _)))), (some (HE.mk true (HB.rows (B.i64 _)))), (some (HE.mk true (HB.rows (B.iPortValue _)))), (some (HE.mk true (HB.rows (B.iPortValue _))))]) (IT_spec_PackMachine_rrrrr_0_ok N) (by kernel_rfl) rfl ((e_spec_PackMachine_rrrrr N _ _ _ _ _ _ _ _ _ _ _ _ _ _ _ _ _ K).trans h)
  · cases h
end Go.Sa
