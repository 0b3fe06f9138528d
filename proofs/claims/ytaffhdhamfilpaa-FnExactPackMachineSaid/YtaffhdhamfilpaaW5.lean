import Derived.Test.YtaffhdhamfilpaaSpec
import Derived.Test.YtaffhdhamfilpaaPLb
import Derived.Test.YtaffhdhamfilpaaW4
set_option linter.all false
namespace Go.Sa
open Go Go.Eng Go.Proofs
set_option maxRecDepth 100000
set_option maxHeartbeats 4000000
/-! ### loop.example/g00038/impl.ymod -/
abbrev sl_impl_ymod : SlotT := []
abbrev J_impl_ymod : JT := jn [] [(9, [(0, .i .i64)])] []
noncomputable def O_impl_ymod (N : Nat) : Orc E := noFn
theorem O_impl_ymod_ok (N : Nat) : OrcOk (O_impl_ymod N) := noFn_ok
noncomputable def g_impl_ymod (N : Nat) {R : Type} (n : Int) (n1 : Int) (k : Int → Option R) : Option R :=
  (cond (n1 == (0 : Int))
  none
  (oK (cond (decide (((Int.tmod n n1) < (0 : Int))))
      (some (IntKind.wrap IntKind.i64 ((Int.tmod n n1) + n1)))
      (some (Int.tmod n n1))) fun j =>
    (k j)))
theorem e_impl_ymod (N : Nat) {R : Type} (n : Int) (n1 : Int) (K : AV → Hp E → Option R) :
    runFnI (E := E) (O_impl_ymod N) (noIt) sl_impl_ymod J_impl_ymod Go.Proofs.Try.f81 [(AV.sc (SV.int IntKind.i64 n)), (AV.sc (SV.int IntKind.i64 n1))] [] K =
      g_impl_ymod N n n1 (fun n2 => K (AV.sc (SV.int IntKind.i64 n2)) []) := by kernel_rfl
noncomputable def o_impl_ymod (N : Nat) {R : Type} (args : List AV) (H : Hp E) (K : AV → Hp E → Option R) : Option R :=
  match args, H with
  | [(AV.sc (SV.int IntKind.i64 n)), (AV.sc (SV.int IntKind.i64 n1))], [] => g_impl_ymod N n n1 (fun n2 => K (AV.sc (SV.int IntKind.i64 n2)) [])
  | _, _ => none
theorem o_impl_ymod_ok (N : Nat) : FnOk E 81 (o_impl_ymod N) := by
  intro R args H K r h
  unfold o_impl_ymod at h
  dsimp only at h
  split at h
  · exact fnB_ok (ids := []) (top := []) ok (O_impl_ymod_ok N) (jn_ok _ _ _) Go.Proofs.Try.func81 (by kernel_rfl) (IT := noIt) (sl := sl_impl_ymod) (J := J_impl_ymod) (K := K) (H := []) (noIt_ok) (by kernel_rfl) rfl ((e_impl_ymod N _ _ K).trans h)
  · cases h
/-! ### loop.example/g00038/impl.ymix -/
abbrev sl_impl_ymix : SlotT := [(0, ([0, 5, 11, 12], [5]))]
abbrev J_impl_ymix : JT := jn [] [] []
noncomputable def O_impl_ymix (N : Nat) : Orc E := addFn 81 (o_impl_ymod N) (noFn)
theorem O_impl_ymix_ok (N : Nat) : OrcOk (O_impl_ymix N) := addFn_ok (o_impl_ymod_ok N) (noFn_ok)
noncomputable def s_impl_ymix_0 (N : Nat) {R : Type} (s1 : ByteArray) (n3 : Int) (n2 : Int) (n4 : Int) (ag : Int → Int → Option R)  (kN : Int → Option R) : Option R :=
  (cond (decide ((n4 < n3)))
  (cond ((decide (((0 : Int) ≤ n4))) && (decide ((n4 < (((ByteArray.size s1) : Nat) : Int)))))
    (ag (Int.tmod (IntKind.wrap IntKind.i64 ((IntKind.wrap IntKind.i64 ((IntKind.wrap IntKind.i64 (n2 * (65599 : Int))) + (IntKind.wrap IntKind.i64 (Go.Eng.bt s1 (Int.toNat n4))))) + (1 : Int))) (2147483629 : Int)) (IntKind.wrap IntKind.i64 (n4 + (1 : Int))))
    none)
  (kN n2))
noncomputable def l_impl_ymix_0 (N : Nat) {R : Type} (s1 : ByteArray) (n3 : Int) (kN : Int → Option R) : Nat → Int → Int → Option R
  | 0, _, _ => none
  | f + 1, n2, n4 => s_impl_ymix_0 N s1 n3 n2 n4 (fun n2 n4 => l_impl_ymix_0 N s1 n3 kN f n2 n4)  kN
noncomputable def c_impl_ymix_0 (N : Nat) {R : Type} (s1 : ByteArray) (n3 : Int) (n2 : Int) (n4 : Int) (kN : Int → Option R) : Option R := l_impl_ymix_0 N s1 n3 kN N n2 n4
theorem se_impl_ymix_0 (N : Nat) {R : Type} (s1 : ByteArray) (n3 : Int) (n2 : Int) (n4 : Int) (AG : List (Option AV) → Hp E → Option R) (KL : Ex → List (Option AV) → Hp E → Option R) :
    iterStep (E := E) (O_impl_ymix N) (fun {R} => LI (noIt) 0 29 sl_impl_ymix (R := R)) J_impl_ymix 0 29 0 [0, 5, 11, 12] [5] (body Go.Proofs.Try.f44 0) AG KL [(some (AV.sc (SV.str s1))), (some (AV.sc (SV.int IntKind.i64 n2))), (some (AV.sc (SV.int IntKind.i64 n3))), (some (AV.sc (SV.int IntKind.i64 n4)))] [] =
      s_impl_ymix_0 N s1 n3 n2 n4 (fun n2 n4 => AG [(some (AV.sc (SV.str s1))), (some (AV.sc (SV.int IntKind.i64 n2))), (some (AV.sc (SV.int IntKind.i64 n3))), (some (AV.sc (SV.int IntKind.i64 n4)))] [])  (fun n7 => KL Ex.normal [(some (AV.sc (SV.int IntKind.i64 n7)))] []) := by kernel_rfl
theorem le_impl_ymix_0 (N : Nat) {R : Type} (s1 : ByteArray) (n3 : Int) (KL : Ex → List (Option AV) → Hp E → Option R) : ∀ (f : Nat), ∀ (n2 : Int) (n4 : Int), iterK (E := E) (O_impl_ymix N) (fun {R} => LI (noIt) 0 29 sl_impl_ymix (R := R)) J_impl_ymix 0 29 0 [0, 5, 11, 12] [5] (body Go.Proofs.Try.f44 0) f [(some (AV.sc (SV.str s1))), (some (AV.sc (SV.int IntKind.i64 n2))), (some (AV.sc (SV.int IntKind.i64 n3))), (some (AV.sc (SV.int IntKind.i64 n4)))] [] KL = l_impl_ymix_0 N s1 n3 (fun n7 => KL Ex.normal [(some (AV.sc (SV.int IntKind.i64 n7)))] []) f n2 n4 := by
  intro f
  induction f with
  | zero => intros; rfl
  | succ f ih =>
    intro n2 n4
    rw [iterK_succ, se_impl_ymix_0]
    exact (congrArg (fun z0 => s_impl_ymix_0 N s1 n3 n2 n4 z0 (fun n7 => KL Ex.normal [(some (AV.sc (SV.int IntKind.i64 n7)))] [])) (funext fun n2 => funext fun n4 => ih n2 n4))
noncomputable def i_impl_ymix_0 (N : Nat) {R : Type} (vs : List (Option AV)) (H : Hp E) (KL : Ex → List (Option AV) → Hp E → Option R) : Option R :=
  match vs, H with
  | [(some (AV.sc (SV.str s1))), (some (AV.sc (SV.int IntKind.i64 n2))), (some (AV.sc (SV.int IntKind.i64 n3))), (some (AV.sc (SV.int IntKind.i64 n4)))], [] => c_impl_ymix_0 N s1 n3 n2 n4 (fun n8 => KL Ex.normal [(some (AV.sc (SV.int IntKind.i64 n8)))] [])
  | _, _ => none
noncomputable def IT_impl_ymix_0 (N : Nat) : Its E := addIt 0 (i_impl_ymix_0 N) (noIt)
theorem IT_impl_ymix_0_ok (N : Nat) : ItOk (IT_impl_ymix_0 N) 0 29 sl_impl_ymix (lsB Go.Proofs.Try.f44 [0]) :=
  addItB_ok (inner := []) ok (O_impl_ymix_ok N) (jn_ok _ _ _) (noIt_ok) rfl (by kernel_rfl) rfl fun vs H KL r h => by
    unfold i_impl_ymix_0 at h
    split at h
    · exact ⟨_, (le_impl_ymix_0 N _ _ KL N _ _).trans h⟩
    · cases h
noncomputable def g_impl_ymix (N : Nat) {R : Type} (s : ByteArray) (n : Int) (k : Int → Option R) : Option R :=
  (g_impl_ymod N n (2147483629 : Int) fun n1 =>
  (c_impl_ymix_0 N s (((ByteArray.size s) : Nat) : Int) (IntKind.wrap IntKind.i64 (n1 + (1 : Int))) (0 : Int) fun n5 =>
  (k (Int.tmod (IntKind.wrap IntKind.i64 ((IntKind.wrap IntKind.i64 (n5 * (40503 : Int))) + (77 : Int))) (2147483629 : Int)))))
theorem e_impl_ymix (N : Nat) {R : Type} (s : ByteArray) (n : Int) (K : AV → Hp E → Option R) :
    runFnI (E := E) (O_impl_ymix N) (IT_impl_ymix_0 N) sl_impl_ymix J_impl_ymix Go.Proofs.Try.f44 [(AV.sc (SV.str s)), (AV.sc (SV.int IntKind.i64 n))] [] K =
      g_impl_ymix N s n (fun n6 => K (AV.sc (SV.int IntKind.i64 n6)) []) := by kernel_rfl
noncomputable def o_impl_ymix (N : Nat) {R : Type} (args : List AV) (H : Hp E) (K : AV → Hp E → Option R) : Option R :=
  match args, H with
  | [(AV.sc (SV.str s)), (AV.sc (SV.int IntKind.i64 n))], [] => g_impl_ymix N s n (fun n6 => K (AV.sc (SV.int IntKind.i64 n6)) [])
  | _, _ => none
theorem o_impl_ymix_ok (N : Nat) : FnOk E 44 (o_impl_ymix N) := by
  intro R args H K r h
  unfold o_impl_ymix at h
  dsimp only at h
  split at h
  · exact fnB_ok (ids := [0]) (top := [0]) ok (O_impl_ymix_ok N) (jn_ok _ _ _) Go.Proofs.Try.func44 (by kernel_rfl) (IT := IT_impl_ymix_0 N) (sl := sl_impl_ymix) (J := J_impl_ymix) (K := K) (H := []) (IT_impl_ymix_0_ok N) (by kernel_rfl) rfl ((e_impl_ymix N _ _ K).trans h)
  · cases h
end Go.Sa
