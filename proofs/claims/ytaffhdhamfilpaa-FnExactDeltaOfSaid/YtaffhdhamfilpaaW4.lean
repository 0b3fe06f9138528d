import Derived.Test.YtaffhdhamfilpaaSpec
import Derived.Test.YtaffhdhamfilpaaPLb
import Derived.Test.YtaffhdhamfilpaaW3
set_option linter.all false
namespace Go.Sa
open Go Go.Eng Go.Proofs
set_option maxRecDepth 100000
set_option maxHeartbeats 4000000
/-! ### loop.example/g00038/impl.ymemOk -/
abbrev sl_impl_ymemOk : SlotT := []
abbrev J_impl_ymemOk : JT := jn [(1, [(2, .b)])] [] []
noncomputable def O_impl_ymemOk (N : Nat) : Orc E := noFn
theorem O_impl_ymemOk_ok (N : Nat) : OrcOk (O_impl_ymemOk N) := noFn_ok
noncomputable def g_impl_ymemOk (N : Nat) {R : Type} (s : ByteArray) (k : Bool → Option R) : Option R :=
 (oK (cond (decide (((((ByteArray.size s) : Nat) : Int) ≥ (256 : Int))))
 (cond (decide (((((ByteArray.size s) : Nat) : Int) ≤ (65536 : Int))))
 (some ((Int.tmod (((ByteArray.size s) : Nat) : Int) (256 : Int)) == (0 : Int)))
 (some false))
 (some false)) fun j =>
 (k j))
theorem e_impl_ymemOk (N : Nat) {R : Type} (s : ByteArray) (K : AV → Hp E → Option R) :
    runFnI (E := E) (O_impl_ymemOk N) (noIt) sl_impl_ymemOk J_impl_ymemOk Try.f75 [(AV.sc (SV.str s))] [] K =
      g_impl_ymemOk N s (fun b => K (AV.sc (SV.bool b)) []) := by kernel_rfl
noncomputable def o_impl_ymemOk (N : Nat) {R : Type} (args : List AV) (H : Hp E) (K : AV → Hp E → Option R) : Option R :=
 match args, H with
 | [(AV.sc (SV.str s))], [] => g_impl_ymemOk N s (fun b => K (AV.sc (SV.bool b)) [])
 | _, _ => none
theorem o_impl_ymemOk_ok (N : Nat) : FnOk E 75 (o_impl_ymemOk N) := by
  intro R args H K r h
  unfold o_impl_ymemOk at h
  dsimp only at h
  split at h
  · exact fnB_ok (ids := []) (top := []) ok (O_impl_ymemOk_ok N) (jn_ok _ _ _) Try.func75 (by kernel_rfl) (IT := noIt) (sl := sl_impl_ymemOk) (J := J_impl_ymemOk) (K := K) (H := []) (noIt_ok) (by kernel_rfl) rfl ((e_impl_ymemOk N _ K).trans h)
  · cases h
/-! ### loop.example/g00038/impl.yisWord -/
abbrev sl_impl_yisWord : SlotT := []
abbrev J_impl_yisWord : JT := jn [(1, [(2, .b)])] [] []
noncomputable def O_impl_yisWord (N : Nat) : Orc E := noFn
theorem O_impl_yisWord_ok (N : Nat) : OrcOk (O_impl_yisWord N) := noFn_ok
noncomputable def g_impl_yisWord (N : Nat) {R : Type} (n : Int) (k : Bool → Option R) : Option R :=
 (oK (cond (decide ((n ≥ (0 : Int))))
 (some (decide ((n < (4294967296 : Int)))))
 (some false)) fun j =>
 (k j))
theorem e_impl_yisWord (N : Nat) {R : Type} (n : Int) (K : AV → Hp E → Option R) :
    runFnI (E := E) (O_impl_yisWord N) (noIt) sl_impl_yisWord J_impl_yisWord Try.f76 [(AV.sc (SV.int IntKind.i64 n))] [] K =
      g_impl_yisWord N n (fun b => K (AV.sc (SV.bool b)) []) := by kernel_rfl
noncomputable def o_impl_yisWord (N : Nat) {R : Type} (args : List AV) (H : Hp E) (K : AV → Hp E → Option R) : Option R :=
 match args, H with
 | [(AV.sc (SV.int IntKind.i64 n))], [] => g_impl_yisWord N n (fun b => K (AV.sc (SV.bool b)) [])
 | _, _ => none
theorem o_impl_yisWord_ok (N : Nat) : FnOk E 76 (o_impl_yisWord N) := by
  intro R args H K r h
  unfold o_impl_yisWord at h
  dsimp only at h
  split at h
  · exact fnB_ok (ids := []) (top := []) ok (O_impl_yisWord_ok N) (jn_ok _ _ _) Try.func76 (by kernel_rfl) (IT := noIt) (sl := sl_impl_yisWord) (J := J_impl_yisWord) (K := K) (H := []) (noIt_ok) (by kernel_rfl) rfl ((e_impl_yisWord N _ K).trans h)
  · cases h
/-! ### loop.example/g00038/impl.ywordsOk$1 -/
abbrev sl_impl_ywordsOk_1 : SlotT := []
abbrev J_impl_ywordsOk_1 : JT := jn [] [] []
noncomputable def O_impl_ywordsOk_1 (N : Nat) : Orc E := addFn 76 (o_impl_yisWord N) (noFn)
theorem O_impl_ywordsOk_1_ok (N : Nat) : OrcOk (O_impl_ywordsOk_1 N) := addFn_ok (o_impl_yisWord_ok N) (noFn_ok)
noncomputable def g_impl_ywordsOk_1 (N : Nat) {R : Type} (n : Int) (k : Bool → Option R) : Option R :=
 (g_impl_yisWord N n fun b =>
 (k (!b)))
theorem e_impl_ywordsOk_1 (N : Nat) {R : Type} (n : Int) (K : AV → Hp E → Option R) :
    runFnI (E := E) (O_impl_ywordsOk_1 N) (noIt) sl_impl_ywordsOk_1 J_impl_ywordsOk_1 Try.f104 [(AV.sc (SV.int IntKind.i64 n))] [] K =
      g_impl_ywordsOk_1 N n (fun b1 => K (AV.sc (SV.bool b1)) []) := by kernel_rfl
noncomputable def o_impl_ywordsOk_1 (N : Nat) {R : Type} (args : List AV) (H : Hp E) (K : AV → Hp E → Option R) : Option R :=
 match args, H with
 | [(AV.sc (SV.int IntKind.i64 n))], [] => g_impl_ywordsOk_1 N n (fun b1 => K (AV.sc (SV.bool b1)) [])
 | _, _ => none
theorem o_impl_ywordsOk_1_ok (N : Nat) : FnOk E 104 (o_impl_ywordsOk_1 N) := by
  intro R args H K r h
  unfold o_impl_ywordsOk_1 at h
  dsimp only at h
  split at h
  · exact fnB_ok (ids := []) (top := []) ok (O_impl_ywordsOk_1_ok N) (jn_ok _ _ _) Try.func104 (by kernel_rfl) (IT := noIt) (sl := sl_impl_ywordsOk_1) (J := J_impl_ywordsOk_1) (K := K) (H := []) (noIt_ok) (by kernel_rfl) rfl ((e_impl_ywordsOk_1 N _ K).trans h)
  · cases h
/-! ### slices.IndexFunc[[]int64,int64] -/
abbrev sl_slices_IndexFunc_int64_Fimpl_ywordsOk_1_r : SlotT := [(0, ([0, 1, 7, 8], [4]))]
abbrev J_slices_IndexFunc_int64_Fimpl_ywordsOk_1_r : JT := jn [] [] []
noncomputable def O_slices_IndexFunc_int64_Fimpl_ywordsOk_1_r (N : Nat) : Orc E := addFn 104 (o_impl_ywordsOk_1 N) (noFn)
theorem O_slices_IndexFunc_int64_Fimpl_ywordsOk_1_r_ok (N : Nat) : OrcOk (O_slices_IndexFunc_int64_Fimpl_ywordsOk_1_r N) := addFn_ok (o_impl_ywordsOk_1_ok N) (noFn_ok)
noncomputable def s_slices_IndexFunc_int64_Fimpl_ywordsOk_1_r_0 (N : Nat) {R : Type} (b1 : Bool) (n : Int) (l1 : List Int) (n1 : Int) (ag : Int → Option R)  (kR : Int → Option R) (kN : Option R) : Option R :=
 (cond (decide ((n1 < n)))
 (cond ((decide (((0 : Int) ≤ n1))) && (decide ((n1 < (((List.length l1) : Nat) : Int)))))
 (elemK l1 (Int.toNat n1) fun x =>
 (g_impl_ywordsOk_1 N x fun b2 =>
 (cond b2
 (kR n1)
 (ag (IntKind.wrap IntKind.i64 (n1 + (1 : Int)))))))
 none)
 kN)
noncomputable def l_slices_IndexFunc_int64_Fimpl_ywordsOk_1_r_0 (N : Nat) {R : Type} (b1 : Bool) (n : Int) (l1 : List Int) (kR : Int → Option R) (kN : Option R) : Nat → Int → Option R
 | 0, _ => none
 | f + 1, n1 => s_slices_IndexFunc_int64_Fimpl_ywordsOk_1_r_0 N b1 n l1 n1 (fun n1 => l_slices_IndexFunc_int64_Fimpl_ywordsOk_1_r_0 N b1 n l1 kR kN f n1)  kR kN
noncomputable def c_slices_IndexFunc_int64_Fimpl_ywordsOk_1_r_0 (N : Nat) {R : Type} (b1 : Bool) (n : Int) (l1 : List Int) (n1 : Int) (kR : Int → Option R) (kN : Option R) : Option R := l_slices_IndexFunc_int64_Fimpl_ywordsOk_1_r_0 N b1 n l1 kR kN N n1
theorem se_slices_IndexFunc_int64_Fimpl_ywordsOk_1_r_0 (N : Nat) {R : Type} (b1 : Bool) (n : Int) (l1 : List Int) (n1 : Int) (AG : List (Option AV) → Hp E → Option R) (KL : Ex → List (Option AV) → Hp E → Option R) :
    iterStep (E := E) (O_slices_IndexFunc_int64_Fimpl_ywordsOk_1_r N) (fun {R} => LI (noIt) 1 19 sl_slices_IndexFunc_int64_Fimpl_ywordsOk_1_r (R := R)) J_slices_IndexFunc_int64_Fimpl_ywordsOk_1_r 1 19 0 [0, 1, 7, 8] [4] (body Try.f120 0) AG KL [(some (AV.sc (SV.slc 0 none b1))), (some (AV.sc (SV.fn 104 []))), (some (AV.sc (SV.int IntKind.i64 n))), (some (AV.sc (SV.int IntKind.i64 n1)))] [(some (HE.mk true (HB.rows (B.i64 l1))))] =
      s_slices_IndexFunc_int64_Fimpl_ywordsOk_1_r_0 N b1 n l1 n1 (fun n1 => AG [(some (AV.sc (SV.slc 0 none b1))), (some (AV.sc (SV.fn 104 []))), (some (AV.sc (SV.int IntKind.i64 n))), (some (AV.sc (SV.int IntKind.i64 n1)))] [(some (HE.mk true (HB.rows (B.i64 l1))))])  (fun n4 => KL Ex.ret [(some (AV.sc (SV.int IntKind.i64 n4)))] [(some (HE.mk true (HB.rows (B.i64 l1))))]) (KL Ex.normal [none] [(some (HE.mk true (HB.rows (B.i64 l1))))]) := by kernel_rfl
theorem le_slices_IndexFunc_int64_Fimpl_ywordsOk_1_r_0 (N : Nat) {R : Type} (b1 : Bool) (n : Int) (l1 : List Int) (KL : Ex → List (Option AV) → Hp E → Option R) : ∀ (f : Nat), ∀ (n1 : Int), iterK (E := E) (O_slices_IndexFunc_int64_Fimpl_ywordsOk_1_r N) (fun {R} => LI (noIt) 1 19 sl_slices_IndexFunc_int64_Fimpl_ywordsOk_1_r (R := R)) J_slices_IndexFunc_int64_Fimpl_ywordsOk_1_r 1 19 0 [0, 1, 7, 8] [4] (body Try.f120 0) f [(some (AV.sc (SV.slc 0 none b1))), (some (AV.sc (SV.fn 104 []))), (some (AV.sc (SV.int IntKind.i64 n))), (some (AV.sc (SV.int IntKind.i64 n1)))] [(some (HE.mk true (HB.rows (B.i64 l1))))] KL = l_slices_IndexFunc_int64_Fimpl_ywordsOk_1_r_0 N b1 n l1 (fun n4 => KL Ex.ret [(some (AV.sc (SV.int IntKind.i64 n4)))] [(some (HE.mk true (HB.rows (B.i64 l1))))]) (KL Ex.normal [none] [(some (HE.mk true (HB.rows (B.i64 l1))))]) f n1 := by
  intro f
  induction f with
  | zero => intros; rfl
  | succ f ih =>
    intro n1
    rw [iterK_succ, se_slices_IndexFunc_int64_Fimpl_ywordsOk_1_r_0]
    exact (congrArg (fun z0 => s_slices_IndexFunc_int64_Fimpl_ywordsOk_1_r_0 N b1 n l1 n1 z0 (fun n4 => KL Ex.ret [(some (AV.sc (SV.int IntKind.i64 n4)))] [(some (HE.mk true (HB.rows (B.i64 l1))))]) (KL Ex.normal [none] [(some (HE.mk true (HB.rows (B.i64 l1))))])) (funext fun n1 => ih n1))
noncomputable def i_slices_IndexFunc_int64_Fimpl_ywordsOk_1_r_0 (N : Nat) {R : Type} (vs : List (Option AV)) (H : Hp E) (KL : Ex → List (Option AV) → Hp E → Option R) : Option R :=
 match vs, H with
 | [(some (AV.sc (SV.slc 0 none b1))), (some (AV.sc (SV.fn 104 []))), (some (AV.sc (SV.int IntKind.i64 n))), (some (AV.sc (SV.int IntKind.i64 n1)))], [(some (HE.mk true (HB.rows (B.i64 l1))))] => c_slices_IndexFunc_int64_Fimpl_ywordsOk_1_r_0 N b1 n l1 n1 (fun n5 => KL Ex.ret [(some (AV.sc (SV.int IntKind.i64 n5)))] [(some (HE.mk true (HB.rows (B.i64 l1))))]) (KL Ex.normal [none] [(some (HE.mk true (HB.rows (B.i64 l1))))])
 | _, _ => none
noncomputable def IT_slices_IndexFunc_int64_Fimpl_ywordsOk_1_r_0 (N : Nat) : Its E := addIt 0 (i_slices_IndexFunc_int64_Fimpl_ywordsOk_1_r_0 N) (noIt)
theorem IT_slices_IndexFunc_int64_Fimpl_ywordsOk_1_r_0_ok (N : Nat) : ItOk (IT_slices_IndexFunc_int64_Fimpl_ywordsOk_1_r_0 N) 1 19 sl_slices_IndexFunc_int64_Fimpl_ywordsOk_1_r (lsB Try.f120 [0]) :=
  addItB_ok (inner := []) ok (O_slices_IndexFunc_int64_Fimpl_ywordsOk_1_r_ok N) (jn_ok _ _ _) (noIt_ok) rfl (by kernel_rfl) rfl fun vs H KL r h => by
    unfold i_slices_IndexFunc_int64_Fimpl_ywordsOk_1_r_0 at h
    split at h
    · exact ⟨_, (le_slices_IndexFunc_int64_Fimpl_ywordsOk_1_r_0 N _ _ _ KL N _).trans h⟩
    · cases h
noncomputable def g_slices_IndexFunc_int64_Fimpl_ywordsOk_1_r (N : Nat) {R : Type} (b : Bool) (l : List Int) (k : Int → Option R) : Option R :=
 (c_slices_IndexFunc_int64_Fimpl_ywordsOk_1_r_0 N b (((List.length l) : Nat) : Int) l (0 : Int) (fun n2 =>
 (k n2)) (
 (k (-(1 : Int)))))
theorem e_slices_IndexFunc_int64_Fimpl_ywordsOk_1_r (N : Nat) {R : Type} (b : Bool) (l : List Int) (K : AV → Hp E → Option R) :
    runFnI (E := E) (O_slices_IndexFunc_int64_Fimpl_ywordsOk_1_r N) (IT_slices_IndexFunc_int64_Fimpl_ywordsOk_1_r_0 N) sl_slices_IndexFunc_int64_Fimpl_ywordsOk_1_r J_slices_IndexFunc_int64_Fimpl_ywordsOk_1_r Try.f120 [(AV.sc (SV.slc 0 none b)), (AV.sc (SV.fn 104 []))] [(some (HE.mk true (HB.rows (B.i64 l))))] K =
      g_slices_IndexFunc_int64_Fimpl_ywordsOk_1_r N b l (fun n3 => K (AV.sc (SV.int IntKind.i64 n3)) [(some (HE.mk true (HB.rows (B.i64 l))))]) := by kernel_rfl
noncomputable def o_slices_IndexFunc_int64_Fimpl_ywordsOk_1_r (N : Nat) {R : Type} (args : List AV) (H : Hp E) (K : AV → Hp E → Option R) : Option R :=
 match args, H with
 | [(AV.sc (SV.slc 0 none b)), (AV.sc (SV.fn 104 []))], [(some (HE.mk true (HB.rows (B.i64 l))))] => g_slices_IndexFunc_int64_Fimpl_ywordsOk_1_r N b l (fun n3 => K (AV.sc (SV.int IntKind.i64 n3)) [(some (HE.mk true (HB.rows (B.i64 l))))])
 | _, _ => none
theorem o_slices_IndexFunc_int64_Fimpl_ywordsOk_1_r_ok (N : Nat) : FnOk E 120 (o_slices_IndexFunc_int64_Fimpl_ywordsOk_1_r N) := by
  intro R args H K r h
  unfold o_slices_IndexFunc_int64_Fimpl_ywordsOk_1_r at h
  dsimp only at h
  split at h
  · exact fnB_ok (ids := [0]) (top := [0]) ok (O_slices_IndexFunc_int64_Fimpl_ywordsOk_1_r_ok N) (jn_ok _ _ _) Try.func120 (by kernel_rfl) (IT := IT_slices_IndexFunc_int64_Fimpl_ywordsOk_1_r_0 N) (sl := sl_slices_IndexFunc_int64_Fimpl_ywordsOk_1_r) (J := J_slices_IndexFunc_int64_Fimpl_ywordsOk_1_r) (K := K) (H := [(some (HE.mk true (HB.rows (B.i64 _))))]) (IT_slices_IndexFunc_int64_Fimpl_ywordsOk_1_r_0_ok N) (by kernel_rfl) rfl ((e_slices_IndexFunc_int64_Fimpl_ywordsOk_1_r N _ _ K).trans h)
  · cases h
/-! ### slices.ContainsFunc[[]int64,int64] -/
abbrev sl_slices_ContainsFunc_int64_Fimpl_ywordsOk_1_r : SlotT := []
abbrev J_slices_ContainsFunc_int64_Fimpl_ywordsOk_1_r : JT := jn [] [] []
noncomputable def O_slices_ContainsFunc_int64_Fimpl_ywordsOk_1_r (N : Nat) : Orc E := addFn 120 (o_slices_IndexFunc_int64_Fimpl_ywordsOk_1_r N) (noFn)
theorem O_slices_ContainsFunc_int64_Fimpl_ywordsOk_1_r_ok (N : Nat) : OrcOk (O_slices_ContainsFunc_int64_Fimpl_ywordsOk_1_r N) := addFn_ok (o_slices_IndexFunc_int64_Fimpl_ywordsOk_1_r_ok N) (noFn_ok)
noncomputable def g_slices_ContainsFunc_int64_Fimpl_ywordsOk_1_r (N : Nat) {R : Type} (b : Bool) (l : List Int) (k : Bool → Option R) : Option R :=
 (g_slices_IndexFunc_int64_Fimpl_ywordsOk_1_r N b l fun n =>
 (k (decide ((n ≥ (0 : Int))))))
theorem e_slices_ContainsFunc_int64_Fimpl_ywordsOk_1_r (N : Nat) {R : Type} (b : Bool) (l : List Int) (K : AV → Hp E → Option R) :
    runFnI (E := E) (O_slices_ContainsFunc_int64_Fimpl_ywordsOk_1_r N) (noIt) sl_slices_ContainsFunc_int64_Fimpl_ywordsOk_1_r J_slices_ContainsFunc_int64_Fimpl_ywordsOk_1_r Try.f103 [(AV.sc (SV.slc 0 none b)), (AV.sc (SV.fn 104 []))] [(some (HE.mk true (HB.rows (B.i64 l))))] K =
      g_slices_ContainsFunc_int64_Fimpl_ywordsOk_1_r N b l (fun b1 => K (AV.sc (SV.bool b1)) [(some (HE.mk true (HB.rows (B.i64 l))))]) := by kernel_rfl
noncomputable def o_slices_ContainsFunc_int64_Fimpl_ywordsOk_1_r (N : Nat) {R : Type} (args : List AV) (H : Hp E) (K : AV → Hp E → Option R) : Option R :=
 match args, H with
 | [(AV.sc (SV.slc 0 none b)), (AV.sc (SV.fn 104 []))], [(some (HE.mk true (HB.rows (B.i64 l))))] => g_slices_ContainsFunc_int64_Fimpl_ywordsOk_1_r N b l (fun b1 => K (AV.sc (SV.bool b1)) [(some (HE.mk true (HB.rows (B.i64 l))))])
 | _, _ => none
theorem o_slices_ContainsFunc_int64_Fimpl_ywordsOk_1_r_ok (N : Nat) : FnOk E 103 (o_slices_ContainsFunc_int64_Fimpl_ywordsOk_1_r N) := by
  intro R args H K r h
  unfold o_slices_ContainsFunc_int64_Fimpl_ywordsOk_1_r at h
  dsimp only at h
  split at h
  · exact fnB_ok (ids := []) (top := []) ok (O_slices_ContainsFunc_int64_Fimpl_ywordsOk_1_r_ok N) (jn_ok _ _ _) Try.func103 (by kernel_rfl) (IT := noIt) (sl := sl_slices_ContainsFunc_int64_Fimpl_ywordsOk_1_r) (J := J_slices_ContainsFunc_int64_Fimpl_ywordsOk_1_r) (K := K) (H := [(some (HE.mk true (HB.rows (B.i64 _))))]) (noIt_ok) (by kernel_rfl) rfl ((e_slices_ContainsFunc_int64_Fimpl_ywordsOk_1_r N _ _ K).trans h)
  · cases h
/-! ### loop.example/g00038/impl.ywordsOk -/
abbrev sl_impl_ywordsOk_r : SlotT := []
abbrev J_impl_ywordsOk_r : JT := jn [(1, [(4, .b)])] [] []
noncomputable def O_impl_ywordsOk_r (N : Nat) : Orc E := addFn 103 (o_slices_ContainsFunc_int64_Fimpl_ywordsOk_1_r N) (noFn)
theorem O_impl_ywordsOk_r_ok (N : Nat) : OrcOk (O_impl_ywordsOk_r N) := addFn_ok (o_slices_ContainsFunc_int64_Fimpl_ywordsOk_1_r_ok N) (noFn_ok)
noncomputable def g_impl_ywordsOk_r (N : Nat) {R : Type} (b : Bool) (n : Int) (l : List Int) (k : Bool → Option R) : Option R :=
 (oK (cond ((((List.length l) : Nat) : Int) == n)
 (g_slices_ContainsFunc_int64_Fimpl_ywordsOk_1_r N b l fun b1 =>
 (some (!b1)))
 (some false)) fun j =>
 (k j))
theorem e_impl_ywordsOk_r (N : Nat) {R : Type} (b : Bool) (n : Int) (l : List Int) (K : AV → Hp E → Option R) :
    runFnI (E := E) (O_impl_ywordsOk_r N) (noIt) sl_impl_ywordsOk_r J_impl_ywordsOk_r Try.f77 [(AV.sc (SV.slc 0 none b)), (AV.sc (SV.int IntKind.i64 n))] [(some (HE.mk true (HB.rows (B.i64 l))))] K =
      g_impl_ywordsOk_r N b n l (fun b2 => K (AV.sc (SV.bool b2)) [(some (HE.mk true (HB.rows (B.i64 l))))]) := by kernel_rfl
noncomputable def o_impl_ywordsOk_r (N : Nat) {R : Type} (args : List AV) (H : Hp E) (K : AV → Hp E → Option R) : Option R :=
 match args, H with
 | [(AV.sc (SV.slc 0 none b)), (AV.sc (SV.int IntKind.i64 n))], [(some (HE.mk true (HB.rows (B.i64 l))))] => g_impl_ywordsOk_r N b n l (fun b2 => K (AV.sc (SV.bool b2)) [(some (HE.mk true (HB.rows (B.i64 l))))])
 | _, _ => none
theorem o_impl_ywordsOk_r_ok (N : Nat) : FnOk E 77 (o_impl_ywordsOk_r N) := by
  intro R args H K r h
  unfold o_impl_ywordsOk_r at h
  dsimp only at h
  split at h
  · exact fnB_ok (ids := []) (top := []) ok (O_impl_ywordsOk_r_ok N) (jn_ok _ _ _) Try.func77 (by kernel_rfl) (IT := noIt) (sl := sl_impl_ywordsOk_r) (J := J_impl_ywordsOk_r) (K := K) (H := [(some (HE.mk true (HB.rows (B.i64 _))))]) (noIt_ok) (by kernel_rfl) rfl ((e_impl_ywordsOk_r N _ _ _ K).trans h)
  · cases h
/-! ### loop.example/g00038/impl.yin -/
abbrev sl_impl_yin : SlotT := []
abbrev J_impl_yin : JT := jn [(1, [(6, .b)])] [] []
noncomputable def O_impl_yin (N : Nat) : Orc E := noFn
theorem O_impl_yin_ok (N : Nat) : OrcOk (O_impl_yin N) := noFn_ok
noncomputable def g_impl_yin (N : Nat) {R : Type} (n : Int) (n1 : Int) (n2 : Int) (k : Bool → Option R) : Option R :=
 (oK (cond (decide ((n ≥ n1)))
 (some (decide ((n ≤ n2))))
 (some false)) fun j =>
 (k j))
theorem e_impl_yin (N : Nat) {R : Type} (n : Int) (n1 : Int) (n2 : Int) (K : AV → Hp E → Option R) :
    runFnI (E := E) (O_impl_yin N) (noIt) sl_impl_yin J_impl_yin Try.f78 [(AV.sc (SV.int IntKind.i64 n)), (AV.sc (SV.int IntKind.i64 n1)), (AV.sc (SV.int IntKind.i64 n2))] [] K =
      g_impl_yin N n n1 n2 (fun b => K (AV.sc (SV.bool b)) []) := by kernel_rfl
noncomputable def o_impl_yin (N : Nat) {R : Type} (args : List AV) (H : Hp E) (K : AV → Hp E → Option R) : Option R :=
 match args, H with
 | [(AV.sc (SV.int IntKind.i64 n)), (AV.sc (SV.int IntKind.i64 n1)), (AV.sc (SV.int IntKind.i64 n2))], [] => g_impl_yin N n n1 n2 (fun b => K (AV.sc (SV.bool b)) [])
 | _, _ => none
theorem o_impl_yin_ok (N : Nat) : FnOk E 78 (o_impl_yin N) := by
  intro R args H K r h
  unfold o_impl_yin at h
  dsimp only at h
  split at h
  · exact fnB_ok (ids := []) (top := []) ok (O_impl_yin_ok N) (jn_ok _ _ _) Try.func78 (by kernel_rfl) (IT := noIt) (sl := sl_impl_yin) (J := J_impl_yin) (K := K) (H := []) (noIt_ok) (by kernel_rfl) rfl ((e_impl_yin N _ _ _ K).trans h)
  · cases h
/-! ### loop.example/g00038/impl.yportsOk$1 -/
abbrev sl_impl_yportsOk_1 : SlotT := []
abbrev J_impl_yportsOk_1 : JT := jn [(1, [(2, .b)])] [] []
noncomputable def O_impl_yportsOk_1 (N : Nat) : Orc E := addFn 76 (o_impl_yisWord N) (addFn 78 (o_impl_yin N) (noFn))
theorem O_impl_yportsOk_1_ok (N : Nat) : OrcOk (O_impl_yportsOk_1 N) := addFn_ok (o_impl_yisWord_ok N) (addFn_ok (o_impl_yin_ok N) (noFn_ok))
noncomputable def g_impl_yportsOk_1 (N : Nat) {R : Type} (n : Int) (n1 : Int) (k : Bool → Option R) : Option R :=
 (oK (g_impl_yin N n (0 : Int) (2047 : Int) fun b =>
 (cond (!b)
 (some true)
 (g_impl_yisWord N n1 fun b1 =>
 (some (!b1))))) fun j =>
 (k j))
theorem e_impl_yportsOk_1 (N : Nat) {R : Type} (n : Int) (n1 : Int) (K : AV → Hp E → Option R) :
    runFnI (E := E) (O_impl_yportsOk_1 N) (noIt) sl_impl_yportsOk_1 J_impl_yportsOk_1 Try.f106 [(AV.agg [(SV.int IntKind.i64 n), (SV.int IntKind.i64 n1)])] [] K =
      g_impl_yportsOk_1 N n n1 (fun b2 => K (AV.sc (SV.bool b2)) []) := by kernel_rfl
noncomputable def o_impl_yportsOk_1 (N : Nat) {R : Type} (args : List AV) (H : Hp E) (K : AV → Hp E → Option R) : Option R :=
 match args, H with
 | [(AV.agg [(SV.int IntKind.i64 n), (SV.int IntKind.i64 n1)])], [] => g_impl_yportsOk_1 N n n1 (fun b2 => K (AV.sc (SV.bool b2)) [])
 | _, _ => none
theorem o_impl_yportsOk_1_ok (N : Nat) : FnOk E 106 (o_impl_yportsOk_1 N) := by
  intro R args H K r h
  unfold o_impl_yportsOk_1 at h
  dsimp only at h
  split at h
  · exact fnB_ok (ids := []) (top := []) ok (O_impl_yportsOk_1_ok N) (jn_ok _ _ _) Try.func106 (by kernel_rfl) (IT := noIt) (sl := sl_impl_yportsOk_1) (J := J_impl_yportsOk_1) (K := K) (H := []) (noIt_ok) (by kernel_rfl) rfl ((e_impl_yportsOk_1 N _ _ K).trans h)
  · cases h
/-! ### slices.IndexFunc[[]loop.example/g00038/impl.PortValue,loop.example/g00038/impl.PortValue] -/
abbrev sl_slices_IndexFunc_PortValue_Fimpl_yportsOk_1_r : SlotT := [(0, ([0, 1, 7, 8], [4]))]
abbrev J_slices_IndexFunc_PortValue_Fimpl_yportsOk_1_r : JT := jn [] [] []
noncomputable def O_slices_IndexFunc_PortValue_Fimpl_yportsOk_1_r (N : Nat) : Orc E := addFn 106 (o_impl_yportsOk_1 N) (noFn)
theorem O_slices_IndexFunc_PortValue_Fimpl_yportsOk_1_r_ok (N : Nat) : OrcOk (O_slices_IndexFunc_PortValue_Fimpl_yportsOk_1_r N) := addFn_ok (o_impl_yportsOk_1_ok N) (noFn_ok)
noncomputable def s_slices_IndexFunc_PortValue_Fimpl_yportsOk_1_r_0 (N : Nat) {R : Type} (b1 : Bool) (n : Int) (l1 : List PortValue) (n1 : Int) (ag : Int → Option R)  (kR : Int → Option R) (kN : Option R) : Option R :=
 (cond (decide ((n1 < n)))
 (cond ((decide (((0 : Int) ≤ n1))) && (decide ((n1 < (((List.length l1) : Nat) : Int)))))
 (elemK l1 (Int.toNat n1) fun x =>
 (g_impl_yportsOk_1 N (PortValue.fPort x) (PortValue.fValue x) fun b2 =>
 (cond b2
 (kR n1)
 (ag (IntKind.wrap IntKind.i64 (n1 + (1 : Int)))))))
 none)
 kN)
noncomputable def l_slices_IndexFunc_PortValue_Fimpl_yportsOk_1_r_0 (N : Nat) {R : Type} (b1 : Bool) (n : Int) (l1 : List PortValue) (kR : Int → Option R) (kN : Option R) : Nat → Int → Option R
 | 0, _ => none
 | f + 1, n1 => s_slices_IndexFunc_PortValue_Fimpl_yportsOk_1_r_0 N b1 n l1 n1 (fun n1 => l_slices_IndexFunc_PortValue_Fimpl_yportsOk_1_r_0 N b1 n l1 kR kN f n1)  kR kN
noncomputable def c_slices_IndexFunc_PortValue_Fimpl_yportsOk_1_r_0 (N : Nat) {R : Type} (b1 : Bool) (n : Int) (l1 : List PortValue) (n1 : Int) (kR : Int → Option R) (kN : Option R) : Option R := l_slices_IndexFunc_PortValue_Fimpl_yportsOk_1_r_0 N b1 n l1 kR kN N n1
theorem se_slices_IndexFunc_PortValue_Fimpl_yportsOk_1_r_0 (N : Nat) {R : Type} (b1 : Bool) (n : Int) (l1 : List PortValue) (n1 : Int) (AG : List (Option AV) → Hp E → Option R) (KL : Ex → List (Option AV) → Hp E → Option R) :
    iterStep (E := E) (O_slices_IndexFunc_PortValue_Fimpl_yportsOk_1_r N) (fun {R} => LI (noIt) 1 19 sl_slices_IndexFunc_PortValue_Fimpl_yportsOk_1_r (R := R)) J_slices_IndexFunc_PortValue_Fimpl_yportsOk_1_r 1 19 0 [0, 1, 7, 8] [4] (body Try.f121 0) AG KL [(some (AV.sc (SV.slc 0 none b1))), (some (AV.sc (SV.fn 106 []))), (some (AV.sc (SV.int IntKind.i64 n))), (some (AV.sc (SV.int IntKind.i64 n1)))] [(some (HE.mk true (HB.rows (B.iPortValue l1))))] =
      s_slices_IndexFunc_PortValue_Fimpl_yportsOk_1_r_0 N b1 n l1 n1 (fun n1 => AG [(some (AV.sc (SV.slc 0 none b1))), (some (AV.sc (SV.fn 106 []))), (some (AV.sc (SV.int IntKind.i64 n))), (some (AV.sc (SV.int IntKind.i64 n1)))] [(some (HE.mk true (HB.rows (B.iPortValue l1))))])  (fun n4 => KL Ex.ret [(some (AV.sc (SV.int IntKind.i64 n4)))] [(some (HE.mk true (HB.rows (B.iPortValue l1))))]) (KL Ex.normal [none] [(some (HE.mk true (HB.rows (B.iPortValue l1))))]) := by kernel_rfl
theorem le_slices_IndexFunc_PortValue_Fimpl_yportsOk_1_r_0 (N : Nat) {R : Type} (b1 : Bool) (n : Int) (l1 : List PortValue) (KL : Ex → List (Option AV) → Hp E → Option R) : ∀ (f : Nat), ∀ (n1 : Int), iterK (E := E) (O_slices_IndexFunc_PortValue_Fimpl_yportsOk_1_r N) (fun {R} => LI (noIt) 1 19 sl_slices_IndexFunc_PortValue_Fimpl_yportsOk_1_r (R := R)) J_slices_IndexFunc_PortValue_Fimpl_yportsOk_1_r 1 19 0 [0, 1, 7, 8] [4] (body Try.f121 0) f [(some (AV.sc (SV.slc 0 none b1))), (some (AV.sc (SV.fn 106 []))), (some (AV.sc (SV.int IntKind.i64 n))), (some (AV.sc (SV.int IntKind.i64 n1)))] [(some (HE.mk true (HB.rows (B.iPortValue l1))))] KL = l_slices_IndexFunc_PortValue_Fimpl_yportsOk_1_r_0 N b1 n l1 (fun n4 => KL Ex.ret [(some (AV.sc (SV.int IntKind.i64 n4)))] [(some (HE.mk true (HB.rows (B.iPortValue l1))))]) (KL Ex.normal [none] [(some (HE.mk true (HB.rows (B.iPortValue l1))))]) f n1 := by
  intro f
  induction f with
  | zero => intros; rfl
  | succ f ih =>
    intro n1
    rw [iterK_succ, se_slices_IndexFunc_PortValue_Fimpl_yportsOk_1_r_0]
    exact (congrArg (fun z0 => s_slices_IndexFunc_PortValue_Fimpl_yportsOk_1_r_0 N b1 n l1 n1 z0 (fun n4 => KL Ex.ret [(some (AV.sc (SV.int IntKind.i64 n4)))] [(some (HE.mk true (HB.rows (B.iPortValue l1))))]) (KL Ex.normal [none] [(some (HE.mk true (HB.rows (B.iPortValue l1))))])) (funext fun n1 => ih n1))
noncomputable def i_slices_IndexFunc_PortValue_Fimpl_yportsOk_1_r_0 (N : Nat) {R : Type} (vs : List (Option AV)) (H : Hp E) (KL : Ex → List (Option AV) → Hp E → Option R) : Option R :=
 match vs, H with
 | [(some (AV.sc (SV.slc 0 none b1))), (some (AV.sc (SV.fn 106 []))), (some (AV.sc (SV.int IntKind.i64 n))), (some (AV.sc (SV.int IntKind.i64 n1)))], [(some (HE.mk true (HB.rows (B.iPortValue l1))))] => c_slices_IndexFunc_PortValue_Fimpl_yportsOk_1_r_0 N b1 n l1 n1 (fun n5 => KL Ex.ret [(some (AV.sc (SV.int IntKind.i64 n5)))] [(some (HE.mk true (HB.rows (B.iPortValue l1))))]) (KL Ex.normal [none] [(some (HE.mk true (HB.rows (B.iPortValue l1))))])
 | _, _ => none
noncomputable def IT_slices_IndexFunc_PortValue_Fimpl_yportsOk_1_r_0 (N : Nat) : Its E := addIt 0 (i_slices_IndexFunc_PortValue_Fimpl_yportsOk_1_r_0 N) (noIt)
theorem IT_slices_IndexFunc_PortValue_Fimpl_yportsOk_1_r_0_ok (N : Nat) : ItOk (IT_slices_IndexFunc_PortValue_Fimpl_yportsOk_1_r_0 N) 1 19 sl_slices_IndexFunc_PortValue_Fimpl_yportsOk_1_r (lsB Try.f121 [0]) :=
  addItB_ok (inner := []) ok (O_slices_IndexFunc_PortValue_Fimpl_yportsOk_1_r_ok N) (jn_ok _ _ _) (noIt_ok) rfl (by kernel_rfl) rfl fun vs H KL r h => by
    unfold i_slices_IndexFunc_PortValue_Fimpl_yportsOk_1_r_0 at h
    split at h
    · exact ⟨_, (le_slices_IndexFunc_PortValue_Fimpl_yportsOk_1_r_0 N _ _ _ KL N _).trans h⟩
    · cases h
noncomputable def g_slices_IndexFunc_PortValue_Fimpl_yportsOk_1_r (N : Nat) {R : Type} (b : Bool) (l : List PortValue) (k : Int → Option R) : Option R :=
 (c_slices_IndexFunc_PortValue_Fimpl_yportsOk_1_r_0 N b (((List.length l) : Nat) : Int) l (0 : Int) (fun n2 =>
 (k n2)) (
 (k (-(1 : Int)))))
theorem e_slices_IndexFunc_PortValue_Fimpl_yportsOk_1_r (N : Nat) {R : Type} (b : Bool) (l : List PortValue) (K : AV → Hp E → Option R) :
    runFnI (E := E) (O_slices_IndexFunc_PortValue_Fimpl_yportsOk_1_r N) (IT_slices_IndexFunc_PortValue_Fimpl_yportsOk_1_r_0 N) sl_slices_IndexFunc_PortValue_Fimpl_yportsOk_1_r J_slices_IndexFunc_PortValue_Fimpl_yportsOk_1_r Try.f121 [(AV.sc (SV.slc 0 none b)), (AV.sc (SV.fn 106 []))] [(some (HE.mk true (HB.rows (B.iPortValue l))))] K =
      g_slices_IndexFunc_PortValue_Fimpl_yportsOk_1_r N b l (fun n3 => K (AV.sc (SV.int IntKind.i64 n3)) [(some (HE.mk true (HB.rows (B.iPortValue l))))]) := by kernel_rfl
noncomputable def o_slices_IndexFunc_PortValue_Fimpl_yportsOk_1_r (N : Nat) {R : Type} (args : List AV) (H : Hp E) (K : AV → Hp E → Option R) : Option R :=
 match args, H with
 | [(AV.sc (SV.slc 0 none b)), (AV.sc (SV.fn 106 []))], [(some (HE.mk true (HB.rows (B.iPortValue l))))] => g_slices_IndexFunc_PortValue_Fimpl_yportsOk_1_r N b l (fun n3 => K (AV.sc (SV.int IntKind.i64 n3)) [(some (HE.mk true (HB.rows (B.iPortValue l))))])
 | _, _ => none
theorem o_slices_IndexFunc_PortValue_Fimpl_yportsOk_1_r_ok (N : Nat) : FnOk E 121 (o_slices_IndexFunc_PortValue_Fimpl_yportsOk_1_r N) := by
  intro R args H K r h
  unfold o_slices_IndexFunc_PortValue_Fimpl_yportsOk_1_r at h
  dsimp only at h
  split at h
  · exact fnB_ok (ids := [0]) (top := [0]) ok (O_slices_IndexFunc_PortValue_Fimpl_yportsOk_1_r_ok N) (jn_ok _ _ _) Try.func121 (by kernel_rfl) (IT := IT_slices_IndexFunc_PortValue_Fimpl_yportsOk_1_r_0 N) (sl := sl_slices_IndexFunc_PortValue_Fimpl_yportsOk_1_r) (J := J_slices_IndexFunc_PortValue_Fimpl_yportsOk_1_r) (K := K) (H := [(some (HE.mk true (HB.rows (B.iPortValue _))))]) (IT_slices_IndexFunc_PortValue_Fimpl_yportsOk_1_r_0_ok N) (by kernel_rfl) rfl ((e_slices_IndexFunc_PortValue_Fimpl_yportsOk_1_r N _ _ K).trans h)
  · cases h
/-! ### slices.ContainsFunc[[]loop.example/g00038/impl.PortValue,loop.example/g00038/impl.PortValue] -/
abbrev sl_slices_ContainsFunc_PortValue_Fimpl_yportsOk_1_r : SlotT := []
abbrev J_slices_ContainsFunc_PortValue_Fimpl_yportsOk_1_r : JT := jn [] [] []
noncomputable def O_slices_ContainsFunc_PortValue_Fimpl_yportsOk_1_r (N : Nat) : Orc E := addFn 121 (o_slices_IndexFunc_PortValue_Fimpl_yportsOk_1_r N) (noFn)
theorem O_slices_ContainsFunc_PortValue_Fimpl_yportsOk_1_r_ok (N : Nat) : OrcOk (O_slices_ContainsFunc_PortValue_Fimpl_yportsOk_1_r N) := addFn_ok (o_slices_IndexFunc_PortValue_Fimpl_yportsOk_1_r_ok N) (noFn_ok)
noncomputable def g_slices_ContainsFunc_PortValue_Fimpl_yportsOk_1_r (N : Nat) {R : Type} (b : Bool) (l : List PortValue) (k : Bool → Option R) : Option R :=
 (g_slices_IndexFunc_PortValue_Fimpl_yportsOk_1_r N b l fun n =>
 (k (decide ((n ≥ (0 : Int))))))
theorem e_slices_ContainsFunc_PortValue_Fimpl_yportsOk_1_r (N : Nat) {R : Type} (b : Bool) (l : List PortValue) (K : AV → Hp E → Option R) :
    runFnI (E := E) (O_slices_ContainsFunc_PortValue_Fimpl_yportsOk_1_r N) (noIt) sl_slices_ContainsFunc_PortValue_Fimpl_yportsOk_1_r J_slices_ContainsFunc_PortValue_Fimpl_yportsOk_1_r Try.f105 [(AV.sc (SV.slc 0 none b)), (AV.sc (SV.fn 106 []))] [(some (HE.mk true (HB.rows (B.iPortValue l))))] K =
      g_slices_ContainsFunc_PortValue_Fimpl_yportsOk_1_r N b l (fun b1 => K (AV.sc (SV.bool b1)) [(some (HE.mk true (HB.rows (B.iPortValue l))))]) := by kernel_rfl
noncomputable def o_slices_ContainsFunc_PortValue_Fimpl_yportsOk_1_r (N : Nat) {R : Type} (args : List AV) (H : Hp E) (K : AV → Hp E → Option R) : Option R :=
 match args, H with
 | [(AV.sc (SV.slc 0 none b)), (AV.sc (SV.fn 106 []))], [(some (HE.mk true (HB.rows (B.iPortValue l))))] => g_slices_ContainsFunc_PortValue_Fimpl_yportsOk_1_r N b l (fun b1 => K (AV.sc (SV.bool b1)) [(some (HE.mk true (HB.rows (B.iPortValue l))))])
 | _, _ => none
theorem o_slices_ContainsFunc_PortValue_Fimpl_yportsOk_1_r_ok (N : Nat) : FnOk E 105 (o_slices_ContainsFunc_PortValue_Fimpl_yportsOk_1_r N) := by
  intro R args H K r h
  unfold o_slices_ContainsFunc_PortValue_Fimpl_yportsOk_1_r at h
  dsimp only at h
  split at h
  · exact fnB_ok (ids := []) (top := []) ok (O_slices_ContainsFunc_PortValue_Fimpl_yportsOk_1_r_ok N) (jn_ok _ _ _) Try.func105 (by kernel_rfl) (IT := noIt) (sl := sl_slices_ContainsFunc_PortValue_Fimpl_yportsOk_1_r) (J := J_slices_ContainsFunc_PortValue_Fimpl_yportsOk_1_r) (K := K) (H := [(some (HE.mk true (HB.rows (B.iPortValue _))))]) (noIt_ok) (by kernel_rfl) rfl ((e_slices_ContainsFunc_PortValue_Fimpl_yportsOk_1_r N _ _ K).trans h)
  · cases h
/-! ### loop.example/g00038/impl.yportsOk -/
abbrev sl_impl_yportsOk_r : SlotT := []
abbrev J_impl_yportsOk_r : JT := jn [(1, [(2, .b)])] [] []
noncomputable def O_impl_yportsOk_r (N : Nat) : Orc E := addFn 105 (o_slices_ContainsFunc_PortValue_Fimpl_yportsOk_1_r N) (noFn)
theorem O_impl_yportsOk_r_ok (N : Nat) : OrcOk (O_impl_yportsOk_r N) := addFn_ok (o_slices_ContainsFunc_PortValue_Fimpl_yportsOk_1_r_ok N) (noFn_ok)
noncomputable def g_impl_yportsOk_r (N : Nat) {R : Type} (b : Bool) (l : List PortValue) (k : Bool → Option R) : Option R :=
 (oK (cond (decide (((((List.length l) : Nat) : Int) ≤ (100 : Int))))
 (g_slices_ContainsFunc_PortValue_Fimpl_yportsOk_1_r N b l fun b1 =>
 (some (!b1)))
 (some false)) fun j =>
 (k j))
theorem e_impl_yportsOk_r (N : Nat) {R : Type} (b : Bool) (l : List PortValue) (K : AV → Hp E → Option R) :
    runFnI (E := E) (O_impl_yportsOk_r N) (noIt) sl_impl_yportsOk_r J_impl_yportsOk_r Try.f79 [(AV.sc (SV.slc 0 none b))] [(some (HE.mk true (HB.rows (B.iPortValue l))))] K =
      g_impl_yportsOk_r N b l (fun b2 => K (AV.sc (SV.bool b2)) [(some (HE.mk true (HB.rows (B.iPortValue l))))]) := by kernel_rfl
noncomputable def o_impl_yportsOk_r (N : Nat) {R : Type} (args : List AV) (H : Hp E) (K : AV → Hp E → Option R) : Option R :=
 match args, H with
 | [(AV.sc (SV.slc 0 none b))], [(some (HE.mk true (HB.rows (B.iPortValue l))))] => g_impl_yportsOk_r N b l (fun b2 => K (AV.sc (SV.bool b2)) [(some (HE.mk true (HB.rows (B.iPortValue l))))])
 | _, _ => none
theorem o_impl_yportsOk_r_ok (N : Nat) : FnOk E 79 (o_impl_yportsOk_r N) := by
  intro R args H K r h
  unfold o_impl_yportsOk_r at h
  dsimp only at h
  split at h
  · exact fnB_ok (ids := []) (top := []) ok (O_impl_yportsOk_r_ok N) (jn_ok _ _ _) Try.func79 (by kernel_rfl) (IT := noIt) (sl := sl_impl_yportsOk_r) (J := J_impl_yportsOk_r) (K := K) (H := [(some (HE.mk true (HB.rows (B.iPortValue _))))]) (noIt_ok) (by kernel_rfl) rfl ((e_impl_yportsOk_r N _ _ K).trans h)
  · cases h
/-! ### loop.example/g00038/impl.MachineFault -/
abbrev sl_impl_MachineFault_rrrrr : SlotT := []
abbrev J_impl_MachineFault_rrrrr : JT := jn [(1, [(107, .b)])] [] []
noncomputable def O_impl_MachineFault_rrrrr (N : Nat) : Orc E := addFn 79 (o_impl_yportsOk_r N) (addFn 78 (o_impl_yin N) (addFn 77 (o_impl_ywordsOk_r N) (addFn 76 (o_impl_yisWord N) (addFn 75 (o_impl_ymemOk N) (noFn)))))
noncomputable def pa_impl_MachineFault_rrrrr__o_impl_yportsOk_r (N : Nat) (G_impl_yportsOk_r : ∀ {R : Type} (b : Bool) (l : List PortValue) (k : Bool → Option R), Option R) {R : Type} (args : List AV) (H : Hp E) (K : AV → Hp E → Option R) : Option R :=
 match args, H with
 | [(AV.sc (SV.slc 0 none b))], [(some (HE.mk true (HB.rows (B.iPortValue l))))] => G_impl_yportsOk_r b l (fun b2 => K (AV.sc (SV.bool b2)) [(some (HE.mk true (HB.rows (B.iPortValue l))))])
 | _, _ => none
noncomputable def pa_impl_MachineFault_rrrrr__o_impl_yin (N : Nat) (G_impl_yin : ∀ {R : Type} (n : Int) (n1 : Int) (n2 : Int) (k : Bool → Option R), Option R) {R : Type} (args : List AV) (H : Hp E) (K : AV → Hp E → Option R) : Option R :=
 match args, H with
 | [(AV.sc (SV.int IntKind.i64 n)), (AV.sc (SV.int IntKind.i64 n1)), (AV.sc (SV.int IntKind.i64 n2))], [] => G_impl_yin n n1 n2 (fun b => K (AV.sc (SV.bool b)) [])
 | _, _ => none
noncomputable def pa_impl_MachineFault_rrrrr__o_impl_ywordsOk_r (N : Nat) (G_impl_ywordsOk_r : ∀ {R : Type} (b : Bool) (n : Int) (l : List Int) (k : Bool → Option R), Option R) {R : Type} (args : List AV) (H : Hp E) (K : AV → Hp E → Option R) : Option R :=
 match args, H with
 | [(AV.sc (SV.slc 0 none b)), (AV.sc (SV.int IntKind.i64 n))], [(some (HE.mk true (HB.rows (B.i64 l))))] => G_impl_ywordsOk_r b n l (fun b2 => K (AV.sc (SV.bool b2)) [(some (HE.mk true (HB.rows (B.i64 l))))])
 | _, _ => none
noncomputable def pa_impl_MachineFault_rrrrr__o_impl_yisWord (N : Nat) (G_impl_yisWord : ∀ {R : Type} (n : Int) (k : Bool → Option R), Option R) {R : Type} (args : List AV) (H : Hp E) (K : AV → Hp E → Option R) : Option R :=
 match args, H with
 | [(AV.sc (SV.int IntKind.i64 n))], [] => G_impl_yisWord n (fun b => K (AV.sc (SV.bool b)) [])
 | _, _ => none
noncomputable def pa_impl_MachineFault_rrrrr__o_impl_ymemOk (N : Nat) (G_impl_ymemOk : ∀ {R : Type} (s : ByteArray) (k : Bool → Option R), Option R) {R : Type} (args : List AV) (H : Hp E) (K : AV → Hp E → Option R) : Option R :=
 match args, H with
 | [(AV.sc (SV.str s))], [] => G_impl_ymemOk s (fun b => K (AV.sc (SV.bool b)) [])
 | _, _ => none
noncomputable def OA_impl_MachineFault_rrrrr (N : Nat) (G_impl_yportsOk_r : ∀ {R : Type} (b : Bool) (l : List PortValue) (k : Bool → Option R), Option R) (G_impl_yin : ∀ {R : Type} (n : Int) (n1 : Int) (n2 : Int) (k : Bool → Option R), Option R) (G_impl_ywordsOk_r : ∀ {R : Type} (b : Bool) (n : Int) (l : List Int) (k : Bool → Option R), Option R) (G_impl_yisWord : ∀ {R : Type} (n : Int) (k : Bool → Option R), Option R) (G_impl_ymemOk : ∀ {R : Type} (s : ByteArray) (k : Bool → Option R), Option R) : Orc E := addFn 79 (pa_impl_MachineFault_rrrrr__o_impl_yportsOk_r N G_impl_yportsOk_r) (addFn 78 (pa_impl_MachineFault_rrrrr__o_impl_yin N G_impl_yin) (addFn 77 (pa_impl_MachineFault_rrrrr__o_impl_ywordsOk_r N G_impl_ywordsOk_r) (addFn 76 (pa_impl_MachineFault_rrrrr__o_impl_yisWord N G_impl_yisWord) (addFn 75 (pa_impl_MachineFault_rrrrr__o_impl_ymemOk N G_impl_ymemOk) (noFn)))))
theorem O_impl_MachineFault_rrrrr_ok (N : Nat) : OrcOk (O_impl_MachineFault_rrrrr N) := addFn_ok (o_impl_yportsOk_r_ok N) (addFn_ok (o_impl_yin_ok N) (addFn_ok (o_impl_ywordsOk_r_ok N) (addFn_ok (o_impl_yisWord_ok N) (addFn_ok (o_impl_ymemOk_ok N) (noFn_ok)))))
noncomputable def g_impl_MachineFault_rrrrr (N : Nat) {R : Type} (n : Int) (b : Bool) (n1 : Int) (b1 : Bool) (b2 : Bool) (s : ByteArray) (n2 : Int) (n3 : Int) (n4 : Int) (b3 : Bool) (b4 : Bool) (n5 : Int) (l : List Int) (l1 : List Int) (l2 : List Int) (l3 : List PortValue) (l4 : List PortValue) (k : Int → Option R) : Option R :=
 (oK (g_impl_ymemOk N s fun b5 =>
 (cond (!b5)
 (some true)
 (g_impl_yisWord N n fun b6 =>
 (cond (!b6)
 (some true)
 (g_impl_ywordsOk_r N b (16 : Int) l fun b7 =>
 (cond (!b7)
 (some true)
 (cond (decide (((0 : Int) < (((List.length l) : Nat) : Int))))
 (elemK l 0 fun x =>
 (cond (x != (0 : Int))
 (some true)
 (g_impl_ywordsOk_r N b1 (12 : Int) l1 fun b8 =>
 (cond (!b8)
 (some true)
 (g_impl_ywordsOk_r N b2 (16 : Int) l2 fun b9 =>
 (cond (!b9)
 (some true)
 (g_impl_yin N n1 (0 : Int) (1 : Int) fun b10 =>
 (cond (!b10)
 (some true)
 (g_impl_yin N n2 (0 : Int) (2 : Int) fun b11 =>
 (cond (!b11)
 (some true)
 (g_impl_yin N n3 (0 : Int) (1099511627776 : Int) fun b12 =>
 (cond (!b12)
 (some true)
 (g_impl_yin N n4 (0 : Int) (127 : Int) fun b13 =>
 (cond (!b13)
 (some true)
 (g_impl_yportsOk_r N b3 l3 fun b14 =>
 (cond (!b14)
 (some true)
 (g_impl_yportsOk_r N b4 l4 fun b15 =>
 (cond (!b15)
 (some true)
 (g_impl_yin N n5 (0 : Int) (2147483628 : Int) fun b16 =>
 (cond (!b16)
 (some true)
 (cond (decide (((0 : Int) < (((List.length l1) : Nat) : Int))))
 (elemK l1 0 fun x1 =>
 (cond (decide ((x1 ≥ (32 : Int))))
 (some true)
 (cond (decide (((8 : Int) < (((List.length l1) : Nat) : Int))))
 (elemK l1 8 fun x2 =>
 (cond (x2 != (0 : Int))
 (some true)
 (cond (decide (((9 : Int) < (((List.length l1) : Nat) : Int))))
 (elemK l1 9 fun x3 =>
 (cond (x3 != (0 : Int))
 (some true)
 (cond (decide (((11 : Int) < (((List.length l1) : Nat) : Int))))
 (elemK l1 11 fun x4 =>
 (some (x4 != (0 : Int))))
 none)))
 none)))
 none)))
 none)))))))))))))))))))))
 none))))))) fun j =>
 (cond j
 (k (1 : Int))
 (k (0 : Int))))
noncomputable def ga_g_impl_MachineFault_rrrrr (N : Nat) (G_impl_yportsOk_r : ∀ {R : Type} (b : Bool) (l : List PortValue) (k : Bool → Option R), Option R) (G_impl_yin : ∀ {R : Type} (n : Int) (n1 : Int) (n2 : Int) (k : Bool → Option R), Option R) (G_impl_ywordsOk_r : ∀ {R : Type} (b : Bool) (n : Int) (l : List Int) (k : Bool → Option R), Option R) (G_impl_yisWord : ∀ {R : Type} (n : Int) (k : Bool → Option R), Option R) (G_impl_ymemOk : ∀ {R : Type} (s : ByteArray) (k : Bool → Option R), Option R) {R : Type} (n : Int) (b : Bool) (n1 : Int) (b1 : Bool) (b2 : Bool) (s : ByteArray) (n2 : Int) (n3 : Int) (n4 : Int) (b3 : Bool) (b4 : Bool) (n5 : Int) (l : List Int) (l1 : List Int) (l2 : List Int) (l3 : List PortValue) (l4 : List PortValue) (k : Int → Option R) : Option R :=
 (oK (G_impl_ymemOk s fun b5 =>
 (cond (!b5)
 (some true)
 (G_impl_yisWord n fun b6 =>
 (cond (!b6)
 (some true)
 (G_impl_ywordsOk_r b (16 : Int) l fun b7 =>
 (cond (!b7)
 (some true)
 (cond (decide (((0 : Int) < (((List.length l) : Nat) : Int))))
 (elemK l 0 fun x =>
 (cond (x != (0 : Int))
 (some true)
 (G_impl_ywordsOk_r b1 (12 : Int) l1 fun b8 =>
 (cond (!b8)
 (some true)
 (G_impl_ywordsOk_r b2 (16 : Int) l2 fun b9 =>
 (cond (!b9)
 (some true)
 (G_impl_yin n1 (0 : Int) (1 : Int) fun b10 =>
 (cond (!b10)
 (some true)
 (G_impl_yin n2 (0 : Int) (2 : Int) fun b11 =>
 (cond (!b11)
 (some true)
 (G_impl_yin n3 (0 : Int) (1099511627776 : Int) fun b12 =>
 (cond (!b12)
 (some true)
 (G_impl_yin n4 (0 : Int) (127 : Int) fun b13 =>
 (cond (!b13)
 (some true)
 (G_impl_yportsOk_r b3 l3 fun b14 =>
 (cond (!b14)
 (some true)
 (G_impl_yportsOk_r b4 l4 fun b15 =>
 (cond (!b15)
 (some true)
 (G_impl_yin n5 (0 : Int) (2147483628 : Int) fun b16 =>
 (cond (!b16)
 (some true)
 (cond (decide (((0 : Int) < (((List.length l1) : Nat) : Int))))
 (elemK l1 0 fun x1 =>
 (cond (decide ((x1 ≥ (32 : Int))))
 (some true)
 (cond (decide (((8 : Int) < (((List.length l1) : Nat) : Int))))
 (elemK l1 8 fun x2 =>
 (cond (x2 != (0 : Int))
 (some true)
 (cond (decide (((9 : Int) < (((List.length l1) : Nat) : Int))))
 (elemK l1 9 fun x3 =>
 (cond (x3 != (0 : Int))
 (some true)
 (cond (decide (((11 : Int) < (((List.length l1) : Nat) : Int))))
 (elemK l1 11 fun x4 =>
 (some (x4 != (0 : Int))))
 none)))
 none)))
 none)))
 none)))))))))))))))))))))
 none))))))) fun j =>
 (cond j
 (k (1 : Int))
 (k (0 : Int))))
theorem ea_e_impl_MachineFault_rrrrr (N : Nat) (G_impl_yportsOk_r : ∀ {R : Type} (b : Bool) (l : List PortValue) (k : Bool → Option R), Option R) (G_impl_yin : ∀ {R : Type} (n : Int) (n1 : Int) (n2 : Int) (k : Bool → Option R), Option R) (G_impl_ywordsOk_r : ∀ {R : Type} (b : Bool) (n : Int) (l : List Int) (k : Bool → Option R), Option R) (G_impl_yisWord : ∀ {R : Type} (n : Int) (k : Bool → Option R), Option R) (G_impl_ymemOk : ∀ {R : Type} (s : ByteArray) (k : Bool → Option R), Option R) {R : Type} (n : Int) (b : Bool) (n1 : Int) (b1 : Bool) (b2 : Bool) (s : ByteArray) (n2 : Int) (n3 : Int) (n4 : Int) (b3 : Bool) (b4 : Bool) (n5 : Int) (l : List Int) (l1 : List Int) (l2 : List Int) (l3 : List PortValue) (l4 : List PortValue) (K : AV → Hp E → Option R) :
    runFnI (E := E) (OA_impl_MachineFault_rrrrr N G_impl_yportsOk_r G_impl_yin G_impl_ywordsOk_r G_impl_yisWord G_impl_ymemOk) (noIt) sl_impl_MachineFault_rrrrr J_impl_MachineFault_rrrrr Try.f35 [(AV.agg [(SV.int IntKind.i64 n), (SV.slc 0 none b), (SV.int IntKind.i64 n1), (SV.slc 1 none b1), (SV.slc 2 none b2), (SV.str s), (SV.int IntKind.i64 n2), (SV.int IntKind.i64 n3), (SV.int IntKind.i64 n4), (SV.slc 3 none b3), (SV.slc 4 none b4), (SV.int IntKind.i64 n5)])] [(some (HE.mk true (HB.rows (B.i64 l)))), (some (HE.mk true (HB.rows (B.i64 l1)))), (some (HE.mk true (HB.rows (B.i64 l2)))), (some (HE.mk true (HB.rows (B.iPortValue l3)))), (some (HE.mk true (HB.rows (B.iPortValue l4))))] K =
      ga_g_impl_MachineFault_rrrrr N G_impl_yportsOk_r G_impl_yin G_impl_ywordsOk_r G_impl_yisWord G_impl_ymemOk n b n1 b1 b2 s n2 n3 n4 b3 b4 n5 l l1 l2 l3 l4 (fun n6 => K (AV.sc (SV.int IntKind.i64 n6)) [(some (HE.mk true (HB.rows (B.i64 l)))), (some (HE.mk true (HB.rows (B.i64 l1)))), (some (HE.mk true (HB.rows (B.i64 l2)))), (some (HE.mk true (HB.rows (B.iPortValue l3)))), (some (HE.mk true (HB.rows (B.iPortValue l4))))]) := by kernel_rfl
theorem e_impl_MachineFault_rrrrr (N : Nat) {R : Type} (n : Int) (b : Bool) (n1 : Int) (b1 : Bool) (b2 : Bool) (s : ByteArray) (n2 : Int) (n3 : Int) (n4 : Int) (b3 : Bool) (b4 : Bool) (n5 : Int) (l : List Int) (l1 : List Int) (l2 : List Int) (l3 : List PortValue) (l4 : List PortValue) (K : AV → Hp E → Option R) :
    runFnI (E := E) (O_impl_MachineFault_rrrrr N) (noIt) sl_impl_MachineFault_rrrrr J_impl_MachineFault_rrrrr Try.f35 [(AV.agg [(SV.int IntKind.i64 n), (SV.slc 0 none b), (SV.int IntKind.i64 n1), (SV.slc 1 none b1), (SV.slc 2 none b2), (SV.str s), (SV.int IntKind.i64 n2), (SV.int IntKind.i64 n3), (SV.int IntKind.i64 n4), (SV.slc 3 none b3), (SV.slc 4 none b4), (SV.int IntKind.i64 n5)])] [(some (HE.mk true (HB.rows (B.i64 l)))), (some (HE.mk true (HB.rows (B.i64 l1)))), (some (HE.mk true (HB.rows (B.i64 l2)))), (some (HE.mk true (HB.rows (B.iPortValue l3)))), (some (HE.mk true (HB.rows (B.iPortValue l4))))] K =
      g_impl_MachineFault_rrrrr N n b n1 b1 b2 s n2 n3 n4 b3 b4 n5 l l1 l2 l3 l4 (fun n6 => K (AV.sc (SV.int IntKind.i64 n6)) [(some (HE.mk true (HB.rows (B.i64 l)))), (some (HE.mk true (HB.rows (B.i64 l1)))), (some (HE.mk true (HB.rows (B.i64 l2)))), (some (HE.mk true (HB.rows (B.iPortValue l3)))), (some (HE.mk true (HB.rows (B.iPortValue l4))))]) := castPr (by kernel_rfl) (ea_e_impl_MachineFault_rrrrr N (g_impl_yportsOk_r N) (g_impl_yin N) (g_impl_ywordsOk_r N) (g_impl_yisWord N) (g_impl_ymemOk N) n b n1 b1 b2 s n2 n3 n4 b3 b4 n5 l l1 l2 l3 l4 K)
noncomputable def o_impl_MachineFault_rrrrr (N : Nat) {R : Type} (args : List AV) (H : Hp E) (K : AV → Hp E → Option R) : Option R :=
 match args, H with
 | [(AV.agg [(SV.int IntKind.i64 n), (SV.slc 0 none b), (SV.int IntKind.i64 n1), (SV.slc 1 none b1), (SV.slc 2 none b2), (SV.str s), (SV.int IntKind.i64 n2), (SV.int IntKind.i64 n3), (SV.int IntKind.i64 n4), (SV.slc 3 none b3), (SV.slc 4 none b4), (SV.int IntKind.i64 n5)])], [(some (HE.mk true (HB.rows (B.i64 l)))), (some (HE.mk true (HB.rows (B.i64 l1)))), (some (HE.mk true (HB.rows (B.i64 l2)))), (some (HE.mk true (HB.rows (B.iPortValue l3)))), (some (HE.mk true (HB.rows (B.iPortValue l4))))] => g_impl_MachineFault_rrrrr N n b n1 b1 b2 s n2 n3 n4 b3 b4 n5 l l1 l2 l3 l4 (fun n6 => K (AV.sc (SV.int IntKind.i64 n6)) [(some (HE.mk true (HB.rows (B.i64 l)))), (some (HE.mk true (HB.rows (B.i64 l1)))), (some (HE.mk true (HB.rows (B.i64 l2)))), (some (HE.mk true (HB.rows (B.iPortValue l3)))), (some (HE.mk true (HB.rows (B.iPortValue l4))))])
 | _, _ => none
theorem o_impl_MachineFault_rrrrr_ok (N : Nat) : FnOk E 35 (o_impl_MachineFault_rrrrr N) := by
  intro R args H K r h
  unfold o_impl_MachineFault_rrrrr at h
  dsimp only at h
  split at h
  · exact fnB_ok (ids := []) (top := []) ok (O_impl_MachineFault_rrrrr_ok N) (jn_ok _ _ _) Try.func35 (by kernel_rfl) (IT := noIt) (sl := sl_impl_MachineFault_rrrrr) (J := J_impl_MachineFault_rrrrr) (K := K) (H := [(some (HE.mk true (HB.rows (B.i64 _)))), (some (HE.mk true (HB.rows (B.i64 _)))), (some (HE.mk true (HB.rows (B.i64 _)))), (some (HE.mk true (HB.rows (B.iPortValue _)))), (some (HE.mk true (HB.rows (B.iPortValue _))))]) (noIt_ok) (by kernel_rfl) rfl ((e_impl_MachineFault_rrrrr N _ _ _ _ _ _ _ _ _ _ _ _ _ _ _ _ _ K).trans h)
  · cases h
end Go.Sa
