import Derived.Test.YtmmgjioemnhoaaaSpec
import Derived.Test.YtmmgjioemnhoaaaPLb
import Derived.Test.YtmmgjioemnhoaaaW0
set_option linter.all false
namespace Go.Sa
open Go Go.Eng Go.Proofs
set_option maxRecDepth 100000
/-! ### loop.example/g00038/impl.ylongKey$1 -/
abbrev sl_impl_ylongKey_1 : SlotT := []
abbrev J_impl_ylongKey_1 : JT := jn [] [] []
noncomputable def O_impl_ylongKey_1 (N : Nat) : Orc E := noFn
theorem O_impl_ylongKey_1_ok (N : Nat) : OrcOk (O_impl_ylongKey_1 N) := noFn_ok
def g_impl_ylongKey_1 (N : Nat) {R : Type} (s : ByteArray) (k : Bool → Option R) : Option R :=
  (k (decide (((((ByteArray.size s) : Nat) : Int) > (4096 : Int)))))
theorem e_impl_ylongKey_1 (N : Nat) {R : Type} (s : ByteArray) (K : AV → Hp E → Option R) :
    runFnI (E := E) (O_impl_ylongKey_1 N) (noIt) sl_impl_ylongKey_1 J_impl_ylongKey_1 Go.Proofs.Try.f105 [(Go.Eng.AV.sc (Go.Eng.SV.str s))] [] K =
      g_impl_ylongKey_1 N s (fun b => K (Go.Eng.AV.sc (Go.Eng.SV.bool b)) []) := by kernel_rfl
def o_impl_ylongKey_1 (N : Nat) {R : Type} (args : List AV) (H : Hp E) (K : AV → Hp E → Option R) : Option R :=
  match args, H with
  | [(Go.Eng.AV.sc (Go.Eng.SV.str s))], [] => g_impl_ylongKey_1 N s (fun b => K (Go.Eng.AV.sc (Go.Eng.SV.bool b)) [])
  | _, _ => none
theorem o_impl_ylongKey_1_ok (N : Nat) : FnOk E 105 (o_impl_ylongKey_1 N) := by
  intro R args H K r h
  unfold o_impl_ylongKey_1 at h
  dsimp only at h
  split at h
  · exact fnB_ok (ids := []) (top := []) ok (O_impl_ylongKey_1_ok N) (jn_ok _ _ _) Go.Proofs.Try.func105 (by kernel_rfl) (IT := noIt) (sl := sl_impl_ylongKey_1) (J := J_impl_ylongKey_1) (K := K) (H := []) (noIt_ok) (by kernel_rfl) rfl ((e_impl_ylongKey_1 N _ K).trans h)
  · cases h
/-! ### slices.IndexFunc[[]string,string] -/
abbrev sl_slices_IndexFunc_string_Fimpl_ylongKey_1_w : SlotT := [(0, ([0, 1, 7, 8], [4]))]
abbrev J_slices_IndexFunc_string_Fimpl_ylongKey_1_w : JT := jn [] [] []
noncomputable def O_slices_IndexFunc_string_Fimpl_ylongKey_1_w (N : Nat) : Orc E := addFn 105 (o_impl_ylongKey_1 N) (noFn)
theorem O_slices_IndexFunc_string_Fimpl_ylongKey_1_w_ok (N : Nat) : OrcOk (O_slices_IndexFunc_string_Fimpl_ylongKey_1_w N) := addFn_ok (o_impl_ylongKey_1_ok N) (noFn_ok)
def s_slices_IndexFunc_string_Fimpl_ylongKey_1_w_0 (N : Nat) {R : Type} (b1 : Bool) (n : Int) (l1 : List ByteArray) (n1 : Int) (ag : Int → Option R)  (kR : Int → Option R) (kN : Option R) : Option R :=
  (cond (decide ((n1 < n)))
  (cond ((decide (((0 : Int) ≤ n1))) && (decide ((n1 < (((List.length l1) : Nat) : Int)))))
    (elemK l1 (Int.toNat n1) fun x =>
      (g_impl_ylongKey_1 N x fun b2 =>
      (cond b2
      (kR n1)
      (ag (Go.IntKind.wrap Go.IntKind.i64 (n1 + (1 : Int)))))))
    none)
  kN)
def l_slices_IndexFunc_string_Fimpl_ylongKey_1_w_0 (N : Nat) {R : Type} (b1 : Bool) (n : Int) (l1 : List ByteArray) (kR : Int → Option R) (kN : Option R) : Nat → Int → Option R
  | 0, _ => none
  | f + 1, n1 => s_slices_IndexFunc_string_Fimpl_ylongKey_1_w_0 N b1 n l1 n1 (fun n1 => l_slices_IndexFunc_string_Fimpl_ylongKey_1_w_0 N b1 n l1 kR kN f n1)  kR kN
def c_slices_IndexFunc_string_Fimpl_ylongKey_1_w_0 (N : Nat) {R : Type} (b1 : Bool) (n : Int) (l1 : List ByteArray) (n1 : Int) (kR : Int → Option R) (kN : Option R) : Option R := l_slices_IndexFunc_string_Fimpl_ylongKey_1_w_0 N b1 n l1 kR kN N n1
theorem se_slices_IndexFunc_string_Fimpl_ylongKey_1_w_0 (N : Nat) {R : Type} (b1 : Bool) (n : Int) (l1 : List ByteArray) (n1 : Int) (AG : List (Option AV) → Hp E → Option R) (KL : Ex → List (Option AV) → Hp E → Option R) :
    iterStep (E := E) (O_slices_IndexFunc_string_Fimpl_ylongKey_1_w N) (fun {R} => LI (noIt) 1 19 sl_slices_IndexFunc_string_Fimpl_ylongKey_1_w (R := R)) J_slices_IndexFunc_string_Fimpl_ylongKey_1_w 1 19 0 [0, 1, 7, 8] [4] (body Go.Proofs.Try.f123 0) AG KL [(Option.some (Go.Eng.AV.sc (Go.Eng.SV.slc 0 Option.none b1))), (Option.some (Go.Eng.AV.sc (Go.Eng.SV.fn 105 []))), (Option.some (Go.Eng.AV.sc (Go.Eng.SV.int Go.IntKind.i64 n))), (Option.some (Go.Eng.AV.sc (Go.Eng.SV.int Go.IntKind.i64 n1)))] [(Option.some (Go.Eng.HE.mk Bool.false (Go.Eng.HB.rows (Go.Sa.B.str l1))))] =
      s_slices_IndexFunc_string_Fimpl_ylongKey_1_w_0 N b1 n l1 n1 (fun n1 => AG [(Option.some (Go.Eng.AV.sc (Go.Eng.SV.slc 0 Option.none b1))), (Option.some (Go.Eng.AV.sc (Go.Eng.SV.fn 105 []))), (Option.some (Go.Eng.AV.sc (Go.Eng.SV.int Go.IntKind.i64 n))), (Option.some (Go.Eng.AV.sc (Go.Eng.SV.int Go.IntKind.i64 n1)))] [(Option.some (Go.Eng.HE.mk Bool.false (Go.Eng.HB.rows (Go.Sa.B.str l1))))])  (fun n4 => KL Go.Eng.Ex.ret [(Option.some (Go.Eng.AV.sc (Go.Eng.SV.int Go.IntKind.i64 n4)))] [(Option.some (Go.Eng.HE.mk Bool.false (Go.Eng.HB.rows (Go.Sa.B.str l1))))]) (KL Go.Eng.Ex.normal [Option.none] [(Option.some (Go.Eng.HE.mk Bool.false (Go.Eng.HB.rows (Go.Sa.B.str l1))))]) := by kernel_rfl
theorem le_slices_IndexFunc_string_Fimpl_ylongKey_1_w_0 (N : Nat) {R : Type} (b1 : Bool) (n : Int) (l1 : List ByteArray) (KL : Ex → List (Option AV) → Hp E → Option R) : ∀ (f : Nat), ∀ (n1 : Int), iterK (E := E) (O_slices_IndexFunc_string_Fimpl_ylongKey_1_w N) (fun {R} => LI (noIt) 1 19 sl_slices_IndexFunc_string_Fimpl_ylongKey_1_w (R := R)) J_slices_IndexFunc_string_Fimpl_ylongKey_1_w 1 19 0 [0, 1, 7, 8] [4] (body Go.Proofs.Try.f123 0) f [(Option.some (Go.Eng.AV.sc (Go.Eng.SV.slc 0 Option.none b1))), (Option.some (Go.Eng.AV.sc (Go.Eng.SV.fn 105 []))), (Option.some (Go.Eng.AV.sc (Go.Eng.SV.int Go.IntKind.i64 n))), (Option.some (Go.Eng.AV.sc (Go.Eng.SV.int Go.IntKind.i64 n1)))] [(Option.some (Go.Eng.HE.mk Bool.false (Go.Eng.HB.rows (Go.Sa.B.str l1))))] KL = l_slices_IndexFunc_string_Fimpl_ylongKey_1_w_0 N b1 n l1 (fun n4 => KL Go.Eng.Ex.ret [(Option.some (Go.Eng.AV.sc (Go.Eng.SV.int Go.IntKind.i64 n4)))] [(Option.some (Go.Eng.HE.mk Bool.false (Go.Eng.HB.rows (Go.Sa.B.str l1))))]) (KL Go.Eng.Ex.normal [Option.none] [(Option.some (Go.Eng.HE.mk Bool.false (Go.Eng.HB.rows (Go.Sa.B.str l1))))]) f n1 := by
  intro f
  induction f with
  | zero => intros; rfl
  | succ f ih =>
    intro n1
    rw [iterK_succ, se_slices_IndexFunc_string_Fimpl_ylongKey_1_w_0]
    exact (congrArg (fun z0 => s_slices_IndexFunc_string_Fimpl_ylongKey_1_w_0 N b1 n l1 n1 z0 (fun n4 => KL Go.Eng.Ex.ret [(Option.some (Go.Eng.AV.sc (Go.Eng.SV.int Go.IntKind.i64 n4)))] [(Option.some (Go.Eng.HE.mk Bool.false (Go.Eng.HB.rows (Go.Sa.B.str l1))))]) (KL Go.Eng.Ex.normal [Option.none] [(Option.some (Go.Eng.HE.mk Bool.false (Go.Eng.HB.rows (Go.Sa.B.str l1))))])) (funext fun n1 => ih n1))
def i_slices_IndexFunc_string_Fimpl_ylongKey_1_w_0 (N : Nat) {R : Type} (vs : List (Option AV)) (H : Hp E) (KL : Ex → List (Option AV) → Hp E → Option R) : Option R :=
  match vs, H with
  | [(Option.some (Go.Eng.AV.sc (Go.Eng.SV.slc 0 Option.none b1))), (Option.some (Go.Eng.AV.sc (Go.Eng.SV.fn 105 []))), (Option.some (Go.Eng.AV.sc (Go.Eng.SV.int Go.IntKind.i64 n))), (Option.some (Go.Eng.AV.sc (Go.Eng.SV.int Go.IntKind.i64 n1)))], [(Option.some (Go.Eng.HE.mk Bool.false (Go.Eng.HB.rows (Go.Sa.B.str l1))))] => c_slices_IndexFunc_string_Fimpl_ylongKey_1_w_0 N b1 n l1 n1 (fun n5 => KL Go.Eng.Ex.ret [(Option.some (Go.Eng.AV.sc (Go.Eng.SV.int Go.IntKind.i64 n5)))] [(Option.some (Go.Eng.HE.mk Bool.false (Go.Eng.HB.rows (Go.Sa.B.str l1))))]) (KL Go.Eng.Ex.normal [Option.none] [(Option.some (Go.Eng.HE.mk Bool.false (Go.Eng.HB.rows (Go.Sa.B.str l1))))])
  | _, _ => none
noncomputable def IT_slices_IndexFunc_string_Fimpl_ylongKey_1_w_0 (N : Nat) : Its E := addIt 0 (i_slices_IndexFunc_string_Fimpl_ylongKey_1_w_0 N) (noIt)
theorem IT_slices_IndexFunc_string_Fimpl_ylongKey_1_w_0_ok (N : Nat) : ItOk (IT_slices_IndexFunc_string_Fimpl_ylongKey_1_w_0 N) 1 19 sl_slices_IndexFunc_string_Fimpl_ylongKey_1_w (lsB Go.Proofs.Try.f123 [0]) :=
  addItB_ok (inner := []) ok (O_slices_IndexFunc_string_Fimpl_ylongKey_1_w_ok N) (jn_ok _ _ _) (noIt_ok) rfl (by kernel_rfl) rfl fun vs H KL r h => by
    unfold i_slices_IndexFunc_string_Fimpl_ylongKey_1_w_0 at h
    split at h
    · exact ⟨_, (le_slices_IndexFunc_string_Fimpl_ylongKey_1_w_0 N _ _ _ KL N _).trans h⟩
    · cases h
def g_slices_IndexFunc_string_Fimpl_ylongKey_1_w (N : Nat) {R : Type} (b : Bool) (l : List ByteArray) (k : Int → Option R) : Option R :=
  (c_slices_IndexFunc_string_Fimpl_ylongKey_1_w_0 N b (((List.length l) : Nat) : Int) l (0 : Int) (fun n2 =>
  (k n2)) (
  (k (-(1 : Int)))))
theorem e_slices_IndexFunc_string_Fimpl_ylongKey_1_w (N : Nat) {R : Type} (b : Bool) (l : List ByteArray) (K : AV → Hp E → Option R) :
    runFnI (E := E) (O_slices_IndexFunc_string_Fimpl_ylongKey_1_w N) (IT_slices_IndexFunc_string_Fimpl_ylongKey_1_w_0 N) sl_slices_IndexFunc_string_Fimpl_ylongKey_1_w J_slices_IndexFunc_string_Fimpl_ylongKey_1_w Go.Proofs.Try.f123 [(Go.Eng.AV.sc (Go.Eng.SV.slc 0 Option.none b)), (Go.Eng.AV.sc (Go.Eng.SV.fn 105 []))] [(Option.some (Go.Eng.HE.mk Bool.false (Go.Eng.HB.rows (Go.Sa.B.str l))))] K =
      g_slices_IndexFunc_string_Fimpl_ylongKey_1_w N b l (fun n3 => K (Go.Eng.AV.sc (Go.Eng.SV.int Go.IntKind.i64 n3)) [(Option.some (Go.Eng.HE.mk Bool.false (Go.Eng.HB.rows (Go.Sa.B.str l))))]) := by kernel_rfl
def o_slices_IndexFunc_string_Fimpl_ylongKey_1_w (N : Nat) {R : Type} (args : List AV) (H : Hp E) (K : AV → Hp E → Option R) : Option R :=
  match args, H with
  | [(Go.Eng.AV.sc (Go.Eng.SV.slc 0 Option.none b)), (Go.Eng.AV.sc (Go.Eng.SV.fn 105 []))], [(Option.some (Go.Eng.HE.mk Bool.false (Go.Eng.HB.rows (Go.Sa.B.str l))))] => g_slices_IndexFunc_string_Fimpl_ylongKey_1_w N b l (fun n3 => K (Go.Eng.AV.sc (Go.Eng.SV.int Go.IntKind.i64 n3)) [(Option.some (Go.Eng.HE.mk Bool.false (Go.Eng.HB.rows (Go.Sa.B.str l))))])
  | _, _ => none
theorem o_slices_IndexFunc_string_Fimpl_ylongKey_1_w_ok (N : Nat) : FnOk E 123 (o_slices_IndexFunc_string_Fimpl_ylongKey_1_w N) := by
  intro R args H K r h
  unfold o_slices_IndexFunc_string_Fimpl_ylongKey_1_w at h
  dsimp only at h
  split at h
  · exact fnB_ok (ids := [0]) (top := [0]) ok (O_slices_IndexFunc_string_Fimpl_ylongKey_1_w_ok N) (jn_ok _ _ _) Go.Proofs.Try.func123 (by kernel_rfl) (IT := IT_slices_IndexFunc_string_Fimpl_ylongKey_1_w_0 N) (sl := sl_slices_IndexFunc_string_Fimpl_ylongKey_1_w) (J := J_slices_IndexFunc_string_Fimpl_ylongKey_1_w) (K := K) (H := [(Option.some (Go.Eng.HE.mk Bool.false (Go.Eng.HB.rows (Go.Sa.B.str _))))]) (IT_slices_IndexFunc_string_Fimpl_ylongKey_1_w_0_ok N) (by kernel_rfl) rfl ((e_slices_IndexFunc_string_Fimpl_ylongKey_1_w N _ _ K).trans h)
  · cases h
/-! ### slices.ContainsFunc[[]string,string] -/
abbrev sl_slices_ContainsFunc_string_Fimpl_ylongKey_1_w : SlotT := []
abbrev J_slices_ContainsFunc_string_Fimpl_ylongKey_1_w : JT := jn [] [] []
noncomputable def O_slices_ContainsFunc_string_Fimpl_ylongKey_1_w (N : Nat) : Orc E := addFn 123 (o_slices_IndexFunc_string_Fimpl_ylongKey_1_w N) (noFn)
theorem O_slices_ContainsFunc_string_Fimpl_ylongKey_1_w_ok (N : Nat) : OrcOk (O_slices_ContainsFunc_string_Fimpl_ylongKey_1_w N) := addFn_ok (o_slices_IndexFunc_string_Fimpl_ylongKey_1_w_ok N) (noFn_ok)
def g_slices_ContainsFunc_string_Fimpl_ylongKey_1_w (N : Nat) {R : Type} (b : Bool) (l : List ByteArray) (k : Bool → Option R) : Option R :=
  (g_slices_IndexFunc_string_Fimpl_ylongKey_1_w N b l fun n =>
  (k (decide ((n ≥ (0 : Int))))))
theorem e_slices_ContainsFunc_string_Fimpl_ylongKey_1_w (N : Nat) {R : Type} (b : Bool) (l : List ByteArray) (K : AV → Hp E → Option R) :
    runFnI (E := E) (O_slices_ContainsFunc_string_Fimpl_ylongKey_1_w N) (noIt) sl_slices_ContainsFunc_string_Fimpl_ylongKey_1_w J_slices_ContainsFunc_string_Fimpl_ylongKey_1_w Go.Proofs.Try.f104 [(Go.Eng.AV.sc (Go.Eng.SV.slc 0 Option.none b)), (Go.Eng.AV.sc (Go.Eng.SV.fn 105 []))] [(Option.some (Go.Eng.HE.mk Bool.false (Go.Eng.HB.rows (Go.Sa.B.str l))))] K =
      g_slices_ContainsFunc_string_Fimpl_ylongKey_1_w N b l (fun b1 => K (Go.Eng.AV.sc (Go.Eng.SV.bool b1)) [(Option.some (Go.Eng.HE.mk Bool.false (Go.Eng.HB.rows (Go.Sa.B.str l))))]) := by kernel_rfl
def o_slices_ContainsFunc_string_Fimpl_ylongKey_1_w (N : Nat) {R : Type} (args : List AV) (H : Hp E) (K : AV → Hp E → Option R) : Option R :=
  match args, H with
  | [(Go.Eng.AV.sc (Go.Eng.SV.slc 0 Option.none b)), (Go.Eng.AV.sc (Go.Eng.SV.fn 105 []))], [(Option.some (Go.Eng.HE.mk Bool.false (Go.Eng.HB.rows (Go.Sa.B.str l))))] => g_slices_ContainsFunc_string_Fimpl_ylongKey_1_w N b l (fun b1 => K (Go.Eng.AV.sc (Go.Eng.SV.bool b1)) [(Option.some (Go.Eng.HE.mk Bool.false (Go.Eng.HB.rows (Go.Sa.B.str l))))])
  | _, _ => none
theorem o_slices_ContainsFunc_string_Fimpl_ylongKey_1_w_ok (N : Nat) : FnOk E 104 (o_slices_ContainsFunc_string_Fimpl_ylongKey_1_w N) := by
  intro R args H K r h
  unfold o_slices_ContainsFunc_string_Fimpl_ylongKey_1_w at h
  dsimp only at h
  split at h
  · exact fnB_ok (ids := []) (top := []) ok (O_slices_ContainsFunc_string_Fimpl_ylongKey_1_w_ok N) (jn_ok _ _ _) Go.Proofs.Try.func104 (by kernel_rfl) (IT := noIt) (sl := sl_slices_ContainsFunc_string_Fimpl_ylongKey_1_w) (J := J_slices_ContainsFunc_string_Fimpl_ylongKey_1_w) (K := K) (H := [(Option.some (Go.Eng.HE.mk Bool.false (Go.Eng.HB.rows (Go.Sa.B.str _))))]) (noIt_ok) (by kernel_rfl) rfl ((e_slices_ContainsFunc_string_Fimpl_ylongKey_1_w N _ _ K).trans h)
  · cases h
/-! ### loop.example/g00038/impl.ylongKey -/
abbrev sl_impl_ylongKey_w : SlotT := []
abbrev J_impl_ylongKey_w : JT := jn [] [] []
noncomputable def O_impl_ylongKey_w (N : Nat) : Orc E := addFn 104 (o_slices_ContainsFunc_string_Fimpl_ylongKey_1_w N) (noFn)
theorem O_impl_ylongKey_w_ok (N : Nat) : OrcOk (O_impl_ylongKey_w N) := addFn_ok (o_slices_ContainsFunc_string_Fimpl_ylongKey_1_w_ok N) (noFn_ok)
def g_impl_ylongKey_w (N : Nat) {R : Type} (b : Bool) (l : List ByteArray) (k : Bool → Option R) : Option R :=
  (g_slices_ContainsFunc_string_Fimpl_ylongKey_1_w N b l fun b1 =>
  (k b1))
theorem e_impl_ylongKey_w (N : Nat) {R : Type} (b : Bool) (l : List ByteArray) (K : AV → Hp E → Option R) :
    runFnI (E := E) (O_impl_ylongKey_w N) (noIt) sl_impl_ylongKey_w J_impl_ylongKey_w Go.Proofs.Try.f57 [(Go.Eng.AV.sc (Go.Eng.SV.slc 0 Option.none b))] [(Option.some (Go.Eng.HE.mk Bool.false (Go.Eng.HB.rows (Go.Sa.B.str l))))] K =
      g_impl_ylongKey_w N b l (fun b2 => K (Go.Eng.AV.sc (Go.Eng.SV.bool b2)) [(Option.some (Go.Eng.HE.mk Bool.false (Go.Eng.HB.rows (Go.Sa.B.str l))))]) := by kernel_rfl
def o_impl_ylongKey_w (N : Nat) {R : Type} (args : List AV) (H : Hp E) (K : AV → Hp E → Option R) : Option R :=
  match args, H with
  | [(Go.Eng.AV.sc (Go.Eng.SV.slc 0 Option.none b))], [(Option.some (Go.Eng.HE.mk Bool.false (Go.Eng.HB.rows (Go.Sa.B.str l))))] => g_impl_ylongKey_w N b l (fun b2 => K (Go.Eng.AV.sc (Go.Eng.SV.bool b2)) [(Option.some (Go.Eng.HE.mk Bool.false (Go.Eng.HB.rows (Go.Sa.B.str l))))])
  | _, _ => none
theorem o_impl_ylongKey_w_ok (N : Nat) : FnOk E 57 (o_impl_ylongKey_w N) := by
  intro R args H K r h
  unfold o_impl_ylongKey_w at h
  dsimp only at h
  split at h
  · exact fnB_ok (ids := []) (top := []) ok (O_impl_ylongKey_w_ok N) (jn_ok _ _ _) Go.Proofs.Try.func57 (by kernel_rfl) (IT := noIt) (sl := sl_impl_ylongKey_w) (J := J_impl_ylongKey_w) (K := K) (H := [(Option.some (Go.Eng.HE.mk Bool.false (Go.Eng.HB.rows (Go.Sa.B.str _))))]) (noIt_ok) (by kernel_rfl) rfl ((e_impl_ylongKey_w N _ _ K).trans h)
  · cases h
/-! ### loop.example/g00038/impl.yisWord -/
abbrev sl_impl_yisWord : SlotT := []
abbrev J_impl_yisWord : JT := jn [(1, [(2, .b)])] [] []
noncomputable def O_impl_yisWord (N : Nat) : Orc E := noFn
theorem O_impl_yisWord_ok (N : Nat) : OrcOk (O_impl_yisWord N) := noFn_ok
def g_impl_yisWord (N : Nat) {R : Type} (n : Int) (k : Bool → Option R) : Option R :=
  (oK (cond (decide ((n ≥ (0 : Int))))
    (some (decide ((n < (4294967296 : Int)))))
    (some Bool.false)) fun j =>
  (k j))
theorem e_impl_yisWord (N : Nat) {R : Type} (n : Int) (K : AV → Hp E → Option R) :
    runFnI (E := E) (O_impl_yisWord N) (noIt) sl_impl_yisWord J_impl_yisWord Go.Proofs.Try.f80 [(Go.Eng.AV.sc (Go.Eng.SV.int Go.IntKind.i64 n))] [] K =
      g_impl_yisWord N n (fun b => K (Go.Eng.AV.sc (Go.Eng.SV.bool b)) []) := by kernel_rfl
def o_impl_yisWord (N : Nat) {R : Type} (args : List AV) (H : Hp E) (K : AV → Hp E → Option R) : Option R :=
  match args, H with
  | [(Go.Eng.AV.sc (Go.Eng.SV.int Go.IntKind.i64 n))], [] => g_impl_yisWord N n (fun b => K (Go.Eng.AV.sc (Go.Eng.SV.bool b)) [])
  | _, _ => none
theorem o_impl_yisWord_ok (N : Nat) : FnOk E 80 (o_impl_yisWord N) := by
  intro R args H K r h
  unfold o_impl_yisWord at h
  dsimp only at h
  split at h
  · exact fnB_ok (ids := []) (top := []) ok (O_impl_yisWord_ok N) (jn_ok _ _ _) Go.Proofs.Try.func80 (by kernel_rfl) (IT := noIt) (sl := sl_impl_yisWord) (J := J_impl_yisWord) (K := K) (H := []) (noIt_ok) (by kernel_rfl) rfl ((e_impl_yisWord N _ K).trans h)
  · cases h
/-! ### loop.example/g00038/impl.yregsOk$1 -/
abbrev sl_impl_yregsOk_1 : SlotT := []
abbrev J_impl_yregsOk_1 : JT := jn [] [] []
noncomputable def O_impl_yregsOk_1 (N : Nat) : Orc E := addFn 80 (o_impl_yisWord N) (noFn)
theorem O_impl_yregsOk_1_ok (N : Nat) : OrcOk (O_impl_yregsOk_1 N) := addFn_ok (o_impl_yisWord_ok N) (noFn_ok)
def g_impl_yregsOk_1 (N : Nat) {R : Type} (n : Int) (k : Bool → Option R) : Option R :=
  (g_impl_yisWord N n fun b =>
  (k (!b)))
theorem e_impl_yregsOk_1 (N : Nat) {R : Type} (n : Int) (K : AV → Hp E → Option R) :
    runFnI (E := E) (O_impl_yregsOk_1 N) (noIt) sl_impl_yregsOk_1 J_impl_yregsOk_1 Go.Proofs.Try.f109 [(Go.Eng.AV.sc (Go.Eng.SV.int Go.IntKind.i64 n))] [] K =
      g_impl_yregsOk_1 N n (fun b1 => K (Go.Eng.AV.sc (Go.Eng.SV.bool b1)) []) := by kernel_rfl
def o_impl_yregsOk_1 (N : Nat) {R : Type} (args : List AV) (H : Hp E) (K : AV → Hp E → Option R) : Option R :=
  match args, H with
  | [(Go.Eng.AV.sc (Go.Eng.SV.int Go.IntKind.i64 n))], [] => g_impl_yregsOk_1 N n (fun b1 => K (Go.Eng.AV.sc (Go.Eng.SV.bool b1)) [])
  | _, _ => none
theorem o_impl_yregsOk_1_ok (N : Nat) : FnOk E 109 (o_impl_yregsOk_1 N) := by
  intro R args H K r h
  unfold o_impl_yregsOk_1 at h
  dsimp only at h
  split at h
  · exact fnB_ok (ids := []) (top := []) ok (O_impl_yregsOk_1_ok N) (jn_ok _ _ _) Go.Proofs.Try.func109 (by kernel_rfl) (IT := noIt) (sl := sl_impl_yregsOk_1) (J := J_impl_yregsOk_1) (K := K) (H := []) (noIt_ok) (by kernel_rfl) rfl ((e_impl_yregsOk_1 N _ K).trans h)
  · cases h
/-! ### slices.IndexFunc[[]int64,int64] -/
abbrev sl_slices_IndexFunc_int64_Fimpl_yregsOk_1_r : SlotT := [(0, ([0, 1, 7, 8], [4]))]
abbrev J_slices_IndexFunc_int64_Fimpl_yregsOk_1_r : JT := jn [] [] []
noncomputable def O_slices_IndexFunc_int64_Fimpl_yregsOk_1_r (N : Nat) : Orc E := addFn 109 (o_impl_yregsOk_1 N) (noFn)
theorem O_slices_IndexFunc_int64_Fimpl_yregsOk_1_r_ok (N : Nat) : OrcOk (O_slices_IndexFunc_int64_Fimpl_yregsOk_1_r N) := addFn_ok (o_impl_yregsOk_1_ok N) (noFn_ok)
def s_slices_IndexFunc_int64_Fimpl_yregsOk_1_r_0 (N : Nat) {R : Type} (b1 : Bool) (n : Int) (l1 : List Int) (n1 : Int) (ag : Int → Option R)  (kR : Int → Option R) (kN : Option R) : Option R :=
  (cond (decide ((n1 < n)))
  (cond ((decide (((0 : Int) ≤ n1))) && (decide ((n1 < (((List.length l1) : Nat) : Int)))))
    (elemK l1 (Int.toNat n1) fun x =>
      (g_impl_yregsOk_1 N x fun b2 =>
      (cond b2
      (kR n1)
      (ag (Go.IntKind.wrap Go.IntKind.i64 (n1 + (1 : Int)))))))
    none)
  kN)
def l_slices_IndexFunc_int64_Fimpl_yregsOk_1_r_0 (N : Nat) {R : Type} (b1 : Bool) (n : Int) (l1 : List Int) (kR : Int → Option R) (kN : Option R) : Nat → Int → Option R
  | 0, _ => none
  | f + 1, n1 => s_slices_IndexFunc_int64_Fimpl_yregsOk_1_r_0 N b1 n l1 n1 (fun n1 => l_slices_IndexFunc_int64_Fimpl_yregsOk_1_r_0 N b1 n l1 kR kN f n1)  kR kN
def c_slices_IndexFunc_int64_Fimpl_yregsOk_1_r_0 (N : Nat) {R : Type} (b1 : Bool) (n : Int) (l1 : List Int) (n1 : Int) (kR : Int → Option R) (kN : Option R) : Option R := l_slices_IndexFunc_int64_Fimpl_yregsOk_1_r_0 N b1 n l1 kR kN N n1
theorem se_slices_IndexFunc_int64_Fimpl_yregsOk_1_r_0 (N : Nat) {R : Type} (b1 : Bool) (n : Int) (l1 : List Int) (n1 : Int) (AG : List (Option AV) → Hp E → Option R) (KL : Ex → List (Option AV) → Hp E → Option R) :
    iterStep (E := E) (O_slices_IndexFunc_int64_Fimpl_yregsOk_1_r N) (fun {R} => LI (noIt) 1 19 sl_slices_IndexFunc_int64_Fimpl_yregsOk_1_r (R := R)) J_slices_IndexFunc_int64_Fimpl_yregsOk_1_r 1 19 0 [0, 1, 7, 8] [4] (body Go.Proofs.Try.f124 0) AG KL [(Option.some (Go.Eng.AV.sc (Go.Eng.SV.slc 0 Option.none b1))), (Option.some (Go.Eng.AV.sc (Go.Eng.SV.fn 109 []))), (Option.some (Go.Eng.AV.sc (Go.Eng.SV.int Go.IntKind.i64 n))), (Option.some (Go.Eng.AV.sc (Go.Eng.SV.int Go.IntKind.i64 n1)))] [(Option.some (Go.Eng.HE.mk Bool.true (Go.Eng.HB.rows (Go.Sa.B.i64 l1))))] =
      s_slices_IndexFunc_int64_Fimpl_yregsOk_1_r_0 N b1 n l1 n1 (fun n1 => AG [(Option.some (Go.Eng.AV.sc (Go.Eng.SV.slc 0 Option.none b1))), (Option.some (Go.Eng.AV.sc (Go.Eng.SV.fn 109 []))), (Option.some (Go.Eng.AV.sc (Go.Eng.SV.int Go.IntKind.i64 n))), (Option.some (Go.Eng.AV.sc (Go.Eng.SV.int Go.IntKind.i64 n1)))] [(Option.some (Go.Eng.HE.mk Bool.true (Go.Eng.HB.rows (Go.Sa.B.i64 l1))))])  (fun n4 => KL Go.Eng.Ex.ret [(Option.some (Go.Eng.AV.sc (Go.Eng.SV.int Go.IntKind.i64 n4)))] [(Option.some (Go.Eng.HE.mk Bool.true (Go.Eng.HB.rows (Go.Sa.B.i64 l1))))]) (KL Go.Eng.Ex.normal [Option.none] [(Option.some (Go.Eng.HE.mk Bool.true (Go.Eng.HB.rows (Go.Sa.B.i64 l1))))]) := by kernel_rfl
theorem le_slices_IndexFunc_int64_Fimpl_yregsOk_1_r_0 (N : Nat) {R : Type} (b1 : Bool) (n : Int) (l1 : List Int) (KL : Ex → List (Option AV) → Hp E → Option R) : ∀ (f : Nat), ∀ (n1 : Int), iterK (E := E) (O_slices_IndexFunc_int64_Fimpl_yregsOk_1_r N) (fun {R} => LI (noIt) 1 19 sl_slices_IndexFunc_int64_Fimpl_yregsOk_1_r (R := R)) J_slices_IndexFunc_int64_Fimpl_yregsOk_1_r 1 19 0 [0, 1, 7, 8] [4] (body Go.Proofs.Try.f124 0) f [(Option.some (Go.Eng.AV.sc (Go.Eng.SV.slc 0 Option.none b1))), (Option.some (Go.Eng.AV.sc (Go.Eng.SV.fn 109 []))), (Option.some (Go.Eng.AV.sc (Go.Eng.SV.int Go.IntKind.i64 n))), (Option.some (Go.Eng.AV.sc (Go.Eng.SV.int Go.IntKind.i64 n1)))] [(Option.some (Go.Eng.HE.mk Bool.true (Go.Eng.HB.rows (Go.Sa.B.i64 l1))))] KL = l_slices_IndexFunc_int64_Fimpl_yregsOk_1_r_0 N b1 n l1 (fun n4 => KL Go.Eng.Ex.ret [(Option.some (Go.Eng.AV.sc (Go.Eng.SV.int Go.IntKind.i64 n4)))] [(Option.some (Go.Eng.HE.mk Bool.true (Go.Eng.HB.rows (Go.Sa.B.i64 l1))))]) (KL Go.Eng.Ex.normal [Option.none] [(Option.some (Go.Eng.HE.mk Bool.true (Go.Eng.HB.rows (Go.Sa.B.i64 l1))))]) f n1 := by
  intro f
  induction f with
  | zero => intros; rfl
  | succ f ih =>
    intro n1
    rw [iterK_succ, se_slices_IndexFunc_int64_Fimpl_yregsOk_1_r_0]
    exact (congrArg (fun z0 => s_slices_IndexFunc_int64_Fimpl_yregsOk_1_r_0 N b1 n l1 n1 z0 (fun n4 => KL Go.Eng.Ex.ret [(Option.some (Go.Eng.AV.sc (Go.Eng.SV.int Go.IntKind.i64 n4)))] [(Option.some (Go.Eng.HE.mk Bool.true (Go.Eng.HB.rows (Go.Sa.B.i64 l1))))]) (KL Go.Eng.Ex.normal [Option.none] [(Option.some (Go.Eng.HE.mk Bool.true (Go.Eng.HB.rows (Go.Sa.B.i64 l1))))])) (funext fun n1 => ih n1))
def i_slices_IndexFunc_int64_Fimpl_yregsOk_1_r_0 (N : Nat) {R : Type} (vs : List (Option AV)) (H : Hp E) (KL : Ex → List (Option AV) → Hp E → Option R) : Option R :=
  match vs, H with
  | [(Option.some (Go.Eng.AV.sc (Go.Eng.SV.slc 0 Option.none b1))), (Option.some (Go.Eng.AV.sc (Go.Eng.SV.fn 109 []))), (Option.some (Go.Eng.AV.sc (Go.Eng.SV.int Go.IntKind.i64 n))), (Option.some (Go.Eng.AV.sc (Go.Eng.SV.int Go.IntKind.i64 n1)))], [(Option.some (Go.Eng.HE.mk Bool.true (Go.Eng.HB.rows (Go.Sa.B.i64 l1))))] => c_slices_IndexFunc_int64_Fimpl_yregsOk_1_r_0 N b1 n l1 n1 (fun n5 => KL Go.Eng.Ex.ret [(Option.some (Go.Eng.AV.sc (Go.Eng.SV.int Go.IntKind.i64 n5)))] [(Option.some (Go.Eng.HE.mk Bool.true (Go.Eng.HB.rows (Go.Sa.B.i64 l1))))]) (KL Go.Eng.Ex.normal [Option.none] [(Option.some (Go.Eng.HE.mk Bool.true (Go.Eng.HB.rows (Go.Sa.B.i64 l1))))])
  | _, _ => none
noncomputable def IT_slices_IndexFunc_int64_Fimpl_yregsOk_1_r_0 (N : Nat) : Its E := addIt 0 (i_slices_IndexFunc_int64_Fimpl_yregsOk_1_r_0 N) (noIt)
theorem IT_slices_IndexFunc_int64_Fimpl_yregsOk_1_r_0_ok (N : Nat) : ItOk (IT_slices_IndexFunc_int64_Fimpl_yregsOk_1_r_0 N) 1 19 sl_slices_IndexFunc_int64_Fimpl_yregsOk_1_r (lsB Go.Proofs.Try.f124 [0]) :=
  addItB_ok (inner := []) ok (O_slices_IndexFunc_int64_Fimpl_yregsOk_1_r_ok N) (jn_ok _ _ _) (noIt_ok) rfl (by kernel_rfl) rfl fun vs H KL r h => by
    unfold i_slices_IndexFunc_int64_Fimpl_yregsOk_1_r_0 at h
    split at h
    · exact ⟨_, (le_slices_IndexFunc_int64_Fimpl_yregsOk_1_r_0 N _ _ _ KL N _).trans h⟩
    · cases h
def g_slices_IndexFunc_int64_Fimpl_yregsOk_1_r (N : Nat) {R : Type} (b : Bool) (l : List Int) (k : Int → Option R) : Option R :=
  (c_slices_IndexFunc_int64_Fimpl_yregsOk_1_r_0 N b (((List.length l) : Nat) : Int) l (0 : Int) (fun n2 =>
  (k n2)) (
  (k (-(1 : Int)))))
theorem e_slices_IndexFunc_int64_Fimpl_yregsOk_1_r (N : Nat) {R : Type} (b : Bool) (l : List Int) (K : AV → Hp E → Option R) :
    runFnI (E := E) (O_slices_IndexFunc_int64_Fimpl_yregsOk_1_r N) (IT_slices_IndexFunc_int64_Fimpl_yregsOk_1_r_0 N) sl_slices_IndexFunc_int64_Fimpl_yregsOk_1_r J_slices_IndexFunc_int64_Fimpl_yregsOk_1_r Go.Proofs.Try.f124 [(Go.Eng.AV.sc (Go.Eng.SV.slc 0 Option.none b)), (Go.Eng.AV.sc (Go.Eng.SV.fn 109 []))] [(Option.some (Go.Eng.HE.mk Bool.true (Go.Eng.HB.rows (Go.Sa.B.i64 l))))] K =
      g_slices_IndexFunc_int64_Fimpl_yregsOk_1_r N b l (fun n3 => K (Go.Eng.AV.sc (Go.Eng.SV.int Go.IntKind.i64 n3)) [(Option.some (Go.Eng.HE.mk Bool.true (Go.Eng.HB.rows (Go.Sa.B.i64 l))))]) := by kernel_rfl
def o_slices_IndexFunc_int64_Fimpl_yregsOk_1_r (N : Nat) {R : Type} (args : List AV) (H : Hp E) (K : AV → Hp E → Option R) : Option R :=
  match args, H with
  | [(Go.Eng.AV.sc (Go.Eng.SV.slc 0 Option.none b)), (Go.Eng.AV.sc (Go.Eng.SV.fn 109 []))], [(Option.some (Go.Eng.HE.mk Bool.true (Go.Eng.HB.rows (Go.Sa.B.i64 l))))] => g_slices_IndexFunc_int64_Fimpl_yregsOk_1_r N b l (fun n3 => K (Go.Eng.AV.sc (Go.Eng.SV.int Go.IntKind.i64 n3)) [(Option.some (Go.Eng.HE.mk Bool.true (Go.Eng.HB.rows (Go.Sa.B.i64 l))))])
  | _, _ => none
theorem o_slices_IndexFunc_int64_Fimpl_yregsOk_1_r_ok (N : Nat) : FnOk E 124 (o_slices_IndexFunc_int64_Fimpl_yregsOk_1_r N) := by
  intro R args H K r h
  unfold o_slices_IndexFunc_int64_Fimpl_yregsOk_1_r at h
  dsimp only at h
  split at h
  · exact fnB_ok (ids := [0]) (top := [0]) ok (O_slices_IndexFunc_int64_Fimpl_yregsOk_1_r_ok N) (jn_ok _ _ _) Go.Proofs.Try.func124 (by kernel_rfl) (IT := IT_slices_IndexFunc_int64_Fimpl_yregsOk_1_r_0 N) (sl := sl_slices_IndexFunc_int64_Fimpl_yregsOk_1_r) (J := J_slices_IndexFunc_int64_Fimpl_yregsOk_1_r) (K := K) (H := [(Option.some (Go.Eng.HE.mk Bool.true (Go.Eng.HB.rows (Go.Sa.B.i64 _))))]) (IT_slices_IndexFunc_int64_Fimpl_yregsOk_1_r_0_ok N) (by kernel_rfl) rfl ((e_slices_IndexFunc_int64_Fimpl_yregsOk_1_r N _ _ K).trans h)
  · cases h
/-! ### slices.ContainsFunc[[]int64,int64] -/
abbrev sl_slices_ContainsFunc_int64_Fimpl_yregsOk_1_r : SlotT := []
abbrev J_slices_ContainsFunc_int64_Fimpl_yregsOk_1_r : JT := jn [] [] []
noncomputable def O_slices_ContainsFunc_int64_Fimpl_yregsOk_1_r (N : Nat) : Orc E := addFn 124 (o_slices_IndexFunc_int64_Fimpl_yregsOk_1_r N) (noFn)
theorem O_slices_ContainsFunc_int64_Fimpl_yregsOk_1_r_ok (N : Nat) : OrcOk (O_slices_ContainsFunc_int64_Fimpl_yregsOk_1_r N) := addFn_ok (o_slices_IndexFunc_int64_Fimpl_yregsOk_1_r_ok N) (noFn_ok)
def g_slices_ContainsFunc_int64_Fimpl_yregsOk_1_r (N : Nat) {R : Type} (b : Bool) (l : List Int) (k : Bool → Option R) : Option R :=
  (g_slices_IndexFunc_int64_Fimpl_yregsOk_1_r N b l fun n =>
  (k (decide ((n ≥ (0 : Int))))))
theorem e_slices_ContainsFunc_int64_Fimpl_yregsOk_1_r (N : Nat) {R : Type} (b : Bool) (l : List Int) (K : AV → Hp E → Option R) :
    runFnI (E := E) (O_slices_ContainsFunc_int64_Fimpl_yregsOk_1_r N) (noIt) sl_slices_ContainsFunc_int64_Fimpl_yregsOk_1_r J_slices_ContainsFunc_int64_Fimpl_yregsOk_1_r Go.Proofs.Try.f108 [(Go.Eng.AV.sc (Go.Eng.SV.slc 0 Option.none b)), (Go.Eng.AV.sc (Go.Eng.SV.fn 109 []))] [(Option.some (Go.Eng.HE.mk Bool.true (Go.Eng.HB.rows (Go.Sa.B.i64 l))))] K =
      g_slices_ContainsFunc_int64_Fimpl_yregsOk_1_r N b l (fun b1 => K (Go.Eng.AV.sc (Go.Eng.SV.bool b1)) [(Option.some (Go.Eng.HE.mk Bool.true (Go.Eng.HB.rows (Go.Sa.B.i64 l))))]) := by kernel_rfl
def o_slices_ContainsFunc_int64_Fimpl_yregsOk_1_r (N : Nat) {R : Type} (args : List AV) (H : Hp E) (K : AV → Hp E → Option R) : Option R :=
  match args, H with
  | [(Go.Eng.AV.sc (Go.Eng.SV.slc 0 Option.none b)), (Go.Eng.AV.sc (Go.Eng.SV.fn 109 []))], [(Option.some (Go.Eng.HE.mk Bool.true (Go.Eng.HB.rows (Go.Sa.B.i64 l))))] => g_slices_ContainsFunc_int64_Fimpl_yregsOk_1_r N b l (fun b1 => K (Go.Eng.AV.sc (Go.Eng.SV.bool b1)) [(Option.some (Go.Eng.HE.mk Bool.true (Go.Eng.HB.rows (Go.Sa.B.i64 l))))])
  | _, _ => none
theorem o_slices_ContainsFunc_int64_Fimpl_yregsOk_1_r_ok (N : Nat) : FnOk E 108 (o_slices_ContainsFunc_int64_Fimpl_yregsOk_1_r N) := by
  intro R args H K r h
  unfold o_slices_ContainsFunc_int64_Fimpl_yregsOk_1_r at h
  dsimp only at h
  split at h
  · exact fnB_ok (ids := []) (top := []) ok (O_slices_ContainsFunc_int64_Fimpl_yregsOk_1_r_ok N) (jn_ok _ _ _) Go.Proofs.Try.func108 (by kernel_rfl) (IT := noIt) (sl := sl_slices_ContainsFunc_int64_Fimpl_yregsOk_1_r) (J := J_slices_ContainsFunc_int64_Fimpl_yregsOk_1_r) (K := K) (H := [(Option.some (Go.Eng.HE.mk Bool.true (Go.Eng.HB.rows (Go.Sa.B.i64 _))))]) (noIt_ok) (by kernel_rfl) rfl ((e_slices_ContainsFunc_int64_Fimpl_yregsOk_1_r N _ _ K).trans h)
  · cases h
/-! ### loop.example/g00038/impl.yregsOk -/
abbrev sl_impl_yregsOk_r : SlotT := []
abbrev J_impl_yregsOk_r : JT := jn [(1, [(2, .b)])] [] []
noncomputable def O_impl_yregsOk_r (N : Nat) : Orc E := addFn 108 (o_slices_ContainsFunc_int64_Fimpl_yregsOk_1_r N) (addFn 77 (o_impl_yin N) (noFn))
theorem O_impl_yregsOk_r_ok (N : Nat) : OrcOk (O_impl_yregsOk_r N) := addFn_ok (o_slices_ContainsFunc_int64_Fimpl_yregsOk_1_r_ok N) (addFn_ok (o_impl_yin_ok N) (noFn_ok))
def g_impl_yregsOk_r (N : Nat) {R : Type} (b : Bool) (l : List Int) (k : Bool → Option R) : Option R :=
  (oK (g_impl_yin N (((List.length l) : Nat) : Int) (1 : Int) (8 : Int) fun b1 =>
    (cond b1
    (g_slices_ContainsFunc_int64_Fimpl_yregsOk_1_r N b l fun b2 =>
      (some (!b2)))
    (some Bool.false))) fun j =>
  (k j))
theorem e_impl_yregsOk_r (N : Nat) {R : Type} (b : Bool) (l : List Int) (K : AV → Hp E → Option R) :
    runFnI (E := E) (O_impl_yregsOk_r N) (noIt) sl_impl_yregsOk_r J_impl_yregsOk_r Go.Proofs.Try.f66 [(Go.Eng.AV.sc (Go.Eng.SV.slc 0 Option.none b))] [(Option.some (Go.Eng.HE.mk Bool.true (Go.Eng.HB.rows (Go.Sa.B.i64 l))))] K =
      g_impl_yregsOk_r N b l (fun b3 => K (Go.Eng.AV.sc (Go.Eng.SV.bool b3)) [(Option.some (Go.Eng.HE.mk Bool.true (Go.Eng.HB.rows (Go.Sa.B.i64 l))))]) := by kernel_rfl
def o_impl_yregsOk_r (N : Nat) {R : Type} (args : List AV) (H : Hp E) (K : AV → Hp E → Option R) : Option R :=
  match args, H with
  | [(Go.Eng.AV.sc (Go.Eng.SV.slc 0 Option.none b))], [(Option.some (Go.Eng.HE.mk Bool.true (Go.Eng.HB.rows (Go.Sa.B.i64 l))))] => g_impl_yregsOk_r N b l (fun b3 => K (Go.Eng.AV.sc (Go.Eng.SV.bool b3)) [(Option.some (Go.Eng.HE.mk Bool.true (Go.Eng.HB.rows (Go.Sa.B.i64 l))))])
  | _, _ => none
theorem o_impl_yregsOk_r_ok (N : Nat) : FnOk E 66 (o_impl_yregsOk_r N) := by
  intro R args H K r h
  unfold o_impl_yregsOk_r at h
  dsimp only at h
  split at h
  · exact fnB_ok (ids := []) (top := []) ok (O_impl_yregsOk_r_ok N) (jn_ok _ _ _) Go.Proofs.Try.func66 (by kernel_rfl) (IT := noIt) (sl := sl_impl_yregsOk_r) (J := J_impl_yregsOk_r) (K := K) (H := [(Option.some (Go.Eng.HE.mk Bool.true (Go.Eng.HB.rows (Go.Sa.B.i64 _))))]) (noIt_ok) (by kernel_rfl) rfl ((e_impl_yregsOk_r N _ _ K).trans h)
  · cases h
/-! ### loop.example/g00038/impl.PutWord -/
abbrev sl_impl_PutWord : SlotT := []
abbrev J_impl_PutWord : JT := jn [] [] []
noncomputable def O_impl_PutWord (N : Nat) : Orc E := noFn
theorem O_impl_PutWord_ok (N : Nat) : OrcOk (O_impl_PutWord N) := noFn_ok
def g_impl_PutWord (N : Nat) {R : Type} (n : Int) (k : ByteArray → Option R) : Option R :=
  (k (Go.Eng.toBytes (Go.Eng.seg [(Go.IntKind.wrap Go.IntKind.u8 (Go.IntKind.wrap Go.IntKind.u32 n)), (Go.IntKind.wrap Go.IntKind.u8 (Int.fdiv (Go.IntKind.wrap Go.IntKind.u32 n) (256 : Int))), (Go.IntKind.wrap Go.IntKind.u8 (Int.fdiv (Go.IntKind.wrap Go.IntKind.u32 n) (65536 : Int))), (Go.IntKind.wrap Go.IntKind.u8 (Int.fdiv (Go.IntKind.wrap Go.IntKind.u32 n) (16777216 : Int)))] 0 (List.length [(Go.IntKind.wrap Go.IntKind.u8 (Go.IntKind.wrap Go.IntKind.u32 n)), (Go.IntKind.wrap Go.IntKind.u8 (Int.fdiv (Go.IntKind.wrap Go.IntKind.u32 n) (256 : Int))), (Go.IntKind.wrap Go.IntKind.u8 (Int.fdiv (Go.IntKind.wrap Go.IntKind.u32 n) (65536 : Int))), (Go.IntKind.wrap Go.IntKind.u8 (Int.fdiv (Go.IntKind.wrap Go.IntKind.u32 n) (16777216 : Int)))]))))
theorem e_impl_PutWord (N : Nat) {R : Type} (n : Int) (K : AV → Hp E → Option R) :
    runFnI (E := E) (O_impl_PutWord N) (noIt) sl_impl_PutWord J_impl_PutWord Go.Proofs.Try.f69 [(Go.Eng.AV.sc (Go.Eng.SV.int Go.IntKind.i64 n))] [] K =
      g_impl_PutWord N n (fun s => K (Go.Eng.AV.sc (Go.Eng.SV.str s)) []) := by kernel_rfl
def o_impl_PutWord (N : Nat) {R : Type} (args : List AV) (H : Hp E) (K : AV → Hp E → Option R) : Option R :=
  match args, H with
  | [(Go.Eng.AV.sc (Go.Eng.SV.int Go.IntKind.i64 n))], [] => g_impl_PutWord N n (fun s => K (Go.Eng.AV.sc (Go.Eng.SV.str s)) [])
  | _, _ => none
theorem o_impl_PutWord_ok (N : Nat) : FnOk E 69 (o_impl_PutWord N) := by
  intro R args H K r h
  unfold o_impl_PutWord at h
  dsimp only at h
  split at h
  · exact fnB_ok (ids := []) (top := []) ok (O_impl_PutWord_ok N) (jn_ok _ _ _) Go.Proofs.Try.func69 (by kernel_rfl) (IT := noIt) (sl := sl_impl_PutWord) (J := J_impl_PutWord) (K := K) (H := []) (noIt_ok) (by kernel_rfl) rfl ((e_impl_PutWord N _ K).trans h)
  · cases h
/-! ### (*strings.Builder).WriteString -/
abbrev sl_strings_Builder_WriteString_Ww : SlotT := []
abbrev J_strings_Builder_WriteString_Ww : JT := jn [] [] []
noncomputable def O_strings_Builder_WriteString_Ww (N : Nat) : Orc E := addFn 120 osp_120 (noFn)
theorem O_strings_Builder_WriteString_Ww_ok (N : Nat) : OrcOk (O_strings_Builder_WriteString_Ww N) := addFn_ok osp_120_ok (noFn_ok)
def g_strings_Builder_WriteString_Ww (N : Nat) {R : Type} (s : ByteArray) (b : Bool) (l : List Int) (k : Int → Bool → (List Int) → Option R) : Option R :=
  (cond (Go.Eng.roomOk ((List.length l) + (List.length (Go.Eng.ofBytes s))) 1)
  (k (((ByteArray.size s) : Nat) : Int) (cond (Nat.beq (List.length (Go.Eng.ofBytes s)) 0) b Bool.false) (l ++ (Go.Eng.ofBytes s)))
  none)
theorem e_strings_Builder_WriteString_Ww (N : Nat) {R : Type} (s : ByteArray) (b : Bool) (l : List Int) (K : AV → Hp E → Option R) :
    runFnI (E := E) (O_strings_Builder_WriteString_Ww N) (noIt) sl_strings_Builder_WriteString_Ww J_strings_Builder_WriteString_Ww Go.Proofs.Try.f95 [(Go.Eng.AV.sc (Go.Eng.SV.ptr 0 0 0)), (Go.Eng.AV.sc (Go.Eng.SV.str s))] [(Option.some (Go.Eng.HE.mk Bool.false (Go.Eng.HB.exp (Option.some 116) [Go.Eng.SV.nilp, (Go.Eng.SV.slc 1 Option.none b)]))), (Option.some (Go.Eng.HE.mk Bool.false (Go.Eng.HB.rows (Go.Sa.B.u8 l))))] K =
      g_strings_Builder_WriteString_Ww N s b l (fun n b1 l1 => K (Go.Eng.AV.tup [(Bool.false, [(Go.Eng.SV.int Go.IntKind.i64 n)]), (Bool.false, [Go.Eng.SV.nili])]) [(Option.some (Go.Eng.HE.mk Bool.false (Go.Eng.HB.exp (Option.some 116) [(Go.Eng.SV.ptr 0 0 0), (Go.Eng.SV.slc 2 Option.none b1)]))), Option.none, (Option.some (Go.Eng.HE.mk Bool.false (Go.Eng.HB.rows (Go.Sa.B.u8 l1))))]) := by kernel_rfl
def o_strings_Builder_WriteString_Ww (N : Nat) {R : Type} (args : List AV) (H : Hp E) (K : AV → Hp E → Option R) : Option R :=
  match args, H with
  | [(Go.Eng.AV.sc (Go.Eng.SV.ptr 0 0 0)), (Go.Eng.AV.sc (Go.Eng.SV.str s))], [(Option.some (Go.Eng.HE.mk Bool.false (Go.Eng.HB.exp (Option.some 116) [Go.Eng.SV.nilp, (Go.Eng.SV.slc 1 Option.none b)]))), (Option.some (Go.Eng.HE.mk Bool.false (Go.Eng.HB.rows (Go.Sa.B.u8 l))))] => g_strings_Builder_WriteString_Ww N s b l (fun n b1 l1 => K (Go.Eng.AV.tup [(Bool.false, [(Go.Eng.SV.int Go.IntKind.i64 n)]), (Bool.false, [Go.Eng.SV.nili])]) [(Option.some (Go.Eng.HE.mk Bool.false (Go.Eng.HB.exp (Option.some 116) [(Go.Eng.SV.ptr 0 0 0), (Go.Eng.SV.slc 2 Option.none b1)]))), Option.none, (Option.some (Go.Eng.HE.mk Bool.false (Go.Eng.HB.rows (Go.Sa.B.u8 l1))))])
  | _, _ => none
theorem o_strings_Builder_WriteString_Ww_ok (N : Nat) : FnOk E 95 (o_strings_Builder_WriteString_Ww N) := by
  intro R args H K r h
  unfold o_strings_Builder_WriteString_Ww at h
  dsimp only at h
  split at h
  · exact fnB_ok (ids := []) (top := []) ok (O_strings_Builder_WriteString_Ww_ok N) (jn_ok _ _ _) Go.Proofs.Try.func95 (by kernel_rfl) (IT := noIt) (sl := sl_strings_Builder_WriteString_Ww) (J := J_strings_Builder_WriteString_Ww) (K := K) (H := [(Option.some (Go.Eng.HE.mk Bool.false (Go.Eng.HB.exp (Option.some 116) [Go.Eng.SV.nilp, (Go.Eng.SV.slc 1 Option.none _)]))), (Option.some (Go.Eng.HE.mk Bool.false (Go.Eng.HB.rows (Go.Sa.B.u8 _))))]) (noIt_ok) (by kernel_rfl) rfl ((e_strings_Builder_WriteString_Ww N _ _ _ K).trans h)
  · cases h
/-! ### (*strings.Builder).WriteString -/
abbrev sl_strings_Builder_WriteString_Ww_v1 : SlotT := []
abbrev J_strings_Builder_WriteString_Ww_v1 : JT := jn [] [] []
noncomputable def O_strings_Builder_WriteString_Ww_v1 (N : Nat) : Orc E := addFn 120 osp_120 (noFn)
theorem O_strings_Builder_WriteString_Ww_v1_ok (N : Nat) : OrcOk (O_strings_Builder_WriteString_Ww_v1 N) := addFn_ok osp_120_ok (noFn_ok)
def g_strings_Builder_WriteString_Ww_v1 (N : Nat) {R : Type} (s : ByteArray) (b : Bool) (l : List Int) (k : Int → Bool → (List Int) → Option R) : Option R :=
  (cond (Go.Eng.roomOk ((List.length l) + (List.length (Go.Eng.ofBytes s))) 1)
  (k (((ByteArray.size s) : Nat) : Int) (cond (Nat.beq (List.length (Go.Eng.ofBytes s)) 0) b Bool.false) (l ++ (Go.Eng.ofBytes s)))
  none)
theorem e_strings_Builder_WriteString_Ww_v1 (N : Nat) {R : Type} (s : ByteArray) (b : Bool) (l : List Int) (K : AV → Hp E → Option R) :
    runFnI (E := E) (O_strings_Builder_WriteString_Ww_v1 N) (noIt) sl_strings_Builder_WriteString_Ww_v1 J_strings_Builder_WriteString_Ww_v1 Go.Proofs.Try.f95 [(Go.Eng.AV.sc (Go.Eng.SV.ptr 0 0 0)), (Go.Eng.AV.sc (Go.Eng.SV.str s))] [(Option.some (Go.Eng.HE.mk Bool.false (Go.Eng.HB.exp (Option.some 116) [(Go.Eng.SV.ptr 0 0 0), (Go.Eng.SV.slc 1 Option.none b)]))), (Option.some (Go.Eng.HE.mk Bool.false (Go.Eng.HB.rows (Go.Sa.B.u8 l))))] K =
      g_strings_Builder_WriteString_Ww_v1 N s b l (fun n b1 l1 => K (Go.Eng.AV.tup [(Bool.false, [(Go.Eng.SV.int Go.IntKind.i64 n)]), (Bool.false, [Go.Eng.SV.nili])]) [(Option.some (Go.Eng.HE.mk Bool.false (Go.Eng.HB.exp (Option.some 116) [(Go.Eng.SV.ptr 0 0 0), (Go.Eng.SV.slc 2 Option.none b1)]))), Option.none, (Option.some (Go.Eng.HE.mk Bool.false (Go.Eng.HB.rows (Go.Sa.B.u8 l1))))]) := by kernel_rfl
def o_strings_Builder_WriteString_Ww_v1 (N : Nat) {R : Type} (args : List AV) (H : Hp E) (K : AV → Hp E → Option R) : Option R :=
  match args, H with
  | [(Go.Eng.AV.sc (Go.Eng.SV.ptr 0 0 0)), (Go.Eng.AV.sc (Go.Eng.SV.str s))], [(Option.some (Go.Eng.HE.mk Bool.false (Go.Eng.HB.exp (Option.some 116) [(Go.Eng.SV.ptr 0 0 0), (Go.Eng.SV.slc 1 Option.none b)]))), (Option.some (Go.Eng.HE.mk Bool.false (Go.Eng.HB.rows (Go.Sa.B.u8 l))))] => g_strings_Builder_WriteString_Ww_v1 N s b l (fun n b1 l1 => K (Go.Eng.AV.tup [(Bool.false, [(Go.Eng.SV.int Go.IntKind.i64 n)]), (Bool.false, [Go.Eng.SV.nili])]) [(Option.some (Go.Eng.HE.mk Bool.false (Go.Eng.HB.exp (Option.some 116) [(Go.Eng.SV.ptr 0 0 0), (Go.Eng.SV.slc 2 Option.none b1)]))), Option.none, (Option.some (Go.Eng.HE.mk Bool.false (Go.Eng.HB.rows (Go.Sa.B.u8 l1))))])
  | _, _ => none
theorem o_strings_Builder_WriteString_Ww_v1_ok (N : Nat) : FnOk E 95 (o_strings_Builder_WriteString_Ww_v1 N) := by
  intro R args H K r h
  unfold o_strings_Builder_WriteString_Ww_v1 at h
  dsimp only at h
  split at h
  · exact fnB_ok (ids := []) (top := []) ok (O_strings_Builder_WriteString_Ww_v1_ok N) (jn_ok _ _ _) Go.Proofs.Try.func95 (by kernel_rfl) (IT := noIt) (sl := sl_strings_Builder_WriteString_Ww_v1) (J := J_strings_Builder_WriteString_Ww_v1) (K := K) (H := [(Option.some (Go.Eng.HE.mk Bool.false (Go.Eng.HB.exp (Option.some 116) [(Go.Eng.SV.ptr 0 0 0), (Go.Eng.SV.slc 1 Option.none _)]))), (Option.some (Go.Eng.HE.mk Bool.false (Go.Eng.HB.rows (Go.Sa.B.u8 _))))]) (noIt_ok) (by kernel_rfl) rfl ((e_strings_Builder_WriteString_Ww_v1 N _ _ _ K).trans h)
  · cases h
/-! ### loop.example/g00038/impl.yregsText -/
def oc_impl_yregsText_w_95 (N : Nat) {R : Type} (args : List AV) (H : Hp E) (K : AV → Hp E → Option R) : Option R :=
  match args, H with
  | [(Go.Eng.AV.sc (Go.Eng.SV.ptr 0 0 0)), (Go.Eng.AV.sc (Go.Eng.SV.str _))], [(Option.some (Go.Eng.HE.mk Bool.false (Go.Eng.HB.exp (Option.some 116) [Go.Eng.SV.nilp, (Go.Eng.SV.slc 1 Option.none _)]))), (Option.some (Go.Eng.HE.mk Bool.false (Go.Eng.HB.rows (Go.Sa.B.u8 _))))] => o_strings_Builder_WriteString_Ww N args H K
  | [(Go.Eng.AV.sc (Go.Eng.SV.ptr 0 0 0)), (Go.Eng.AV.sc (Go.Eng.SV.str _))], [(Option.some (Go.Eng.HE.mk Bool.false (Go.Eng.HB.exp (Option.some 116) [(Go.Eng.SV.ptr 0 0 0), (Go.Eng.SV.slc 1 Option.none _)]))), (Option.some (Go.Eng.HE.mk Bool.false (Go.Eng.HB.rows (Go.Sa.B.u8 _))))] => o_strings_Builder_WriteString_Ww_v1 N args H K
  | _, _ => none
theorem oc_impl_yregsText_w_95_ok (N : Nat) : FnOk E 95 (oc_impl_yregsText_w_95 N) := by
  intro R args H K r h
  unfold oc_impl_yregsText_w_95 at h
  dsimp only at h
  split at h
  · exact o_strings_Builder_WriteString_Ww_ok N _ _ _ _ h
  · exact o_strings_Builder_WriteString_Ww_v1_ok N _ _ _ _ h
  · cases h
abbrev sl_impl_yregsText_w : SlotT := [(0, ([3, 6, 7, 8], [3]))]
abbrev J_impl_yregsText_w : JT := jn [] [] []
noncomputable def O_impl_yregsText_w (N : Nat) : Orc E := addFn 96 osp_96 (addFn 95 (oc_impl_yregsText_w_95 N) (addFn 69 (o_impl_PutWord N) (noFn)))
theorem O_impl_yregsText_w_ok (N : Nat) : OrcOk (O_impl_yregsText_w N) := addFn_ok osp_96_ok (addFn_ok (oc_impl_yregsText_w_95_ok N) (addFn_ok (o_impl_PutWord_ok N) (noFn_ok)))
def s_impl_yregsText_w_0 (N : Nat) {R : Type} (b4 : Bool) (n3 : Int) (l4 : List Int) (n4 : Int) (b5 : Bool) (l5 : List Int) (ag : Int → Bool → (List Int) → Option R)  (kN : (List Int) → Bool → (List Int) → Option R) : Option R :=
  (cond (decide ((n4 < n3)))
  (cond ((decide (((0 : Int) ≤ n4))) && (decide ((n4 < (((List.length l4) : Nat) : Int)))))
    (elemK l4 (Int.toNat n4) fun x1 =>
      (g_impl_PutWord N x1 fun s1 =>
      (g_strings_Builder_WriteString_Ww_v1 N s1 b5 l5 fun n5 b6 l6 =>
      (ag (Go.IntKind.wrap Go.IntKind.i64 (n4 + (1 : Int))) b6 l6))))
    none)
  (kN l4 b5 l5))
def l_impl_yregsText_w_0 (N : Nat) {R : Type} (b4 : Bool) (n3 : Int) (l4 : List Int) (kN : (List Int) → Bool → (List Int) → Option R) : Nat → Int → Bool → (List Int) → Option R
  | 0, _, _, _ => none
  | f + 1, n4, b5, l5 => s_impl_yregsText_w_0 N b4 n3 l4 n4 b5 l5 (fun n4 b5 l5 => l_impl_yregsText_w_0 N b4 n3 l4 kN f n4 b5 l5)  kN
def c_impl_yregsText_w_0 (N : Nat) {R : Type} (b4 : Bool) (n3 : Int) (l4 : List Int) (n4 : Int) (b5 : Bool) (l5 : List Int) (kN : (List Int) → Bool → (List Int) → Option R) : Option R := l_impl_yregsText_w_0 N b4 n3 l4 kN N n4 b5 l5
theorem se_impl_yregsText_w_0 (N : Nat) {R : Type} (b4 : Bool) (n3 : Int) (l4 : List Int) (n4 : Int) (b5 : Bool) (l5 : List Int) (AG : List (Option AV) → Hp E → Option R) (KL : Ex → List (Option AV) → Hp E → Option R) :
    iterStep (E := E) (O_impl_yregsText_w N) (fun {R} => LI (noIt) 1 17 sl_impl_yregsText_w (R := R)) J_impl_yregsText_w 1 17 0 [3, 6, 7, 8] [3] (body Go.Proofs.Try.f70 0) AG KL [(Option.some (Go.Eng.AV.sc (Go.Eng.SV.ptr 1 0 0))), (Option.some (Go.Eng.AV.sc (Go.Eng.SV.slc 0 Option.none b4))), (Option.some (Go.Eng.AV.sc (Go.Eng.SV.int Go.IntKind.i64 n3))), (Option.some (Go.Eng.AV.sc (Go.Eng.SV.int Go.IntKind.i64 n4)))] [(Option.some (Go.Eng.HE.mk Bool.false (Go.Eng.HB.rows (Go.Sa.B.i64 l4)))), (Option.some (Go.Eng.HE.mk Bool.false (Go.Eng.HB.exp (Option.some 116) [(Go.Eng.SV.ptr 1 0 0), (Go.Eng.SV.slc 2 Option.none b5)]))), (Option.some (Go.Eng.HE.mk Bool.false (Go.Eng.HB.rows (Go.Sa.B.u8 l5))))] =
      s_impl_yregsText_w_0 N b4 n3 l4 n4 b5 l5 (fun n4 b5 l5 => AG [(Option.some (Go.Eng.AV.sc (Go.Eng.SV.ptr 1 0 0))), (Option.some (Go.Eng.AV.sc (Go.Eng.SV.slc 0 Option.none b4))), (Option.some (Go.Eng.AV.sc (Go.Eng.SV.int Go.IntKind.i64 n3))), (Option.some (Go.Eng.AV.sc (Go.Eng.SV.int Go.IntKind.i64 n4)))] [(Option.some (Go.Eng.HE.mk Bool.false (Go.Eng.HB.rows (Go.Sa.B.i64 l4)))), (Option.some (Go.Eng.HE.mk Bool.false (Go.Eng.HB.exp (Option.some 116) [(Go.Eng.SV.ptr 1 0 0), (Go.Eng.SV.slc 2 Option.none b5)]))), (Option.some (Go.Eng.HE.mk Bool.false (Go.Eng.HB.rows (Go.Sa.B.u8 l5))))])  (fun l10 b8 l11 => KL Go.Eng.Ex.normal [(Option.some (Go.Eng.AV.sc (Go.Eng.SV.ptr 1 0 0)))] [(Option.some (Go.Eng.HE.mk Bool.false (Go.Eng.HB.rows (Go.Sa.B.i64 l10)))), (Option.some (Go.Eng.HE.mk Bool.false (Go.Eng.HB.exp (Option.some 116) [(Go.Eng.SV.ptr 1 0 0), (Go.Eng.SV.slc 2 Option.none b8)]))), (Option.some (Go.Eng.HE.mk Bool.false (Go.Eng.HB.rows (Go.Sa.B.u8 l11))))]) := by kernel_rfl
theorem le_impl_yregsText_w_0 (N : Nat) {R : Type} (b4 : Bool) (n3 : Int) (l4 : List Int) (KL : Ex → List (Option AV) → Hp E → Option R) : ∀ (f : Nat), ∀ (n4 : Int) (b5 : Bool) (l5 : List Int), iterK (E := E) (O_impl_yregsText_w N) (fun {R} => LI (noIt) 1 17 sl_impl_yregsText_w (R := R)) J_impl_yregsText_w 1 17 0 [3, 6, 7, 8] [3] (body Go.Proofs.Try.f70 0) f [(Option.some (Go.Eng.AV.sc (Go.Eng.SV.ptr 1 0 0))), (Option.some (Go.Eng.AV.sc (Go.Eng.SV.slc 0 Option.none b4))), (Option.some (Go.Eng.AV.sc (Go.Eng.SV.int Go.IntKind.i64 n3))), (Option.some (Go.Eng.AV.sc (Go.Eng.SV.int Go.IntKind.i64 n4)))] [(Option.some (Go.Eng.HE.mk Bool.false (Go.Eng.HB.rows (Go.Sa.B.i64 l4)))), (Option.some (Go.Eng.HE.mk Bool.false (Go.Eng.HB.exp (Option.some 116) [(Go.Eng.SV.ptr 1 0 0), (Go.Eng.SV.slc 2 Option.none b5)]))), (Option.some (Go.Eng.HE.mk Bool.false (Go.Eng.HB.rows (Go.Sa.B.u8 l5))))] KL = l_impl_yregsText_w_0 N b4 n3 l4 (fun l10 b8 l11 => KL Go.Eng.Ex.normal [(Option.some (Go.Eng.AV.sc (Go.Eng.SV.ptr 1 0 0)))] [(Option.some (Go.Eng.HE.mk Bool.false (Go.Eng.HB.rows (Go.Sa.B.i64 l10)))), (Option.some (Go.Eng.HE.mk Bool.false (Go.Eng.HB.exp (Option.some 116) [(Go.Eng.SV.ptr 1 0 0), (Go.Eng.SV.slc 2 Option.none b8)]))), (Option.some (Go.Eng.HE.mk Bool.false (Go.Eng.HB.rows (Go.Sa.B.u8 l11))))]) f n4 b5 l5 := by
  intro f
  induction f with
  | zero => intros; rfl
  | succ f ih =>
    intro n4 b5 l5
    rw [iterK_succ, se_impl_yregsText_w_0]
    exact (congrArg (fun z0 => s_impl_yregsText_w_0 N b4 n3 l4 n4 b5 l5 z0 (fun l10 b8 l11 => KL Go.Eng.Ex.normal [(Option.some (Go.Eng.AV.sc (Go.Eng.SV.ptr 1 0 0)))] [(Option.some (Go.Eng.HE.mk Bool.false (Go.Eng.HB.rows (Go.Sa.B.i64 l10)))), (Option.some (Go.Eng.HE.mk Bool.false (Go.Eng.HB.exp (Option.some 116) [(Go.Eng.SV.ptr 1 0 0), (Go.Eng.SV.slc 2 Option.none b8)]))), (Option.some (Go.Eng.HE.mk Bool.false (Go.Eng.HB.rows (Go.Sa.B.u8 l11))))])) (funext fun n4 => funext fun b5 => funext fun l5 => ih n4 b5 l5))
def s_impl_yregsText_w_0b1 (N : Nat) {R : Type} (b1 : Bool) (n : Int) (n1 : Int) (l1 : List Int) (b2 : Bool) (l2 : List Int)  (ag1 : Bool → Int → Int → (List Int) → Bool → (List Int) → Option R) (kNb1 : Option R) : Option R :=
  (cond (decide ((n1 < n)))
  (cond ((decide (((0 : Int) ≤ n1))) && (decide ((n1 < (((List.length l1) : Nat) : Int)))))
    (elemK l1 (Int.toNat n1) fun x =>
      (g_impl_PutWord N x fun s =>
      (g_strings_Builder_WriteString_Ww N s b2 l2 fun n2 b3 l3 =>
      (ag1 b1 n (Go.IntKind.wrap Go.IntKind.i64 (n1 + (1 : Int))) l1 b3 l3))))
    none)
  kNb1)
def l_impl_yregsText_w_0b1 (N : Nat) {R : Type} (b1 : Bool) (n : Int) (n1 : Int) (l1 : List Int) (b2 : Bool) (l2 : List Int) (kNb1 : Option R) (kN : (List Int) → Bool → (List Int) → Option R) : Nat → Option R
  | 0 => none
  | f + 1 => s_impl_yregsText_w_0b1 N b1 n n1 l1 b2 l2  (fun b4 n3 n4 l4 b5 l5 => l_impl_yregsText_w_0 N b4 n3 l4 kN f n4 b5 l5) kNb1
def c_impl_yregsText_w_0b1 (N : Nat) {R : Type} (b1 : Bool) (n : Int) (n1 : Int) (l1 : List Int) (b2 : Bool) (l2 : List Int)  (kNb1 : Option R) (kN : (List Int) → Bool → (List Int) → Option R) : Option R := l_impl_yregsText_w_0b1 N b1 n n1 l1 b2 l2 kNb1 kN N 
theorem se_impl_yregsText_w_0b1 (N : Nat) {R : Type} (b1 : Bool) (n : Int) (n1 : Int) (l1 : List Int) (b2 : Bool) (l2 : List Int)  (AG : List (Option AV) → Hp E → Option R) (KL : Ex → List (Option AV) → Hp E → Option R) :
    iterStep (E := E) (O_impl_yregsText_w N) (fun {R} => LI (noIt) 1 17 sl_impl_yregsText_w (R := R)) J_impl_yregsText_w 1 17 0 [3, 6, 7, 8] [3] (body Go.Proofs.Try.f70 0) AG KL [(Option.some (Go.Eng.AV.sc (Go.Eng.SV.ptr 1 0 0))), (Option.some (Go.Eng.AV.sc (Go.Eng.SV.slc 0 Option.none b1))), (Option.some (Go.Eng.AV.sc (Go.Eng.SV.int Go.IntKind.i64 n))), (Option.some (Go.Eng.AV.sc (Go.Eng.SV.int Go.IntKind.i64 n1)))] [(Option.some (Go.Eng.HE.mk Bool.false (Go.Eng.HB.rows (Go.Sa.B.i64 l1)))), (Option.some (Go.Eng.HE.mk Bool.false (Go.Eng.HB.exp (Option.some 116) [Go.Eng.SV.nilp, (Go.Eng.SV.slc 2 Option.none b2)]))), (Option.some (Go.Eng.HE.mk Bool.false (Go.Eng.HB.rows (Go.Sa.B.u8 l2))))] =
      s_impl_yregsText_w_0b1 N b1 n n1 l1 b2 l2  (fun b4 n3 n4 l4 b5 l5 => AG [(Option.some (Go.Eng.AV.sc (Go.Eng.SV.ptr 1 0 0))), (Option.some (Go.Eng.AV.sc (Go.Eng.SV.slc 0 Option.none b4))), (Option.some (Go.Eng.AV.sc (Go.Eng.SV.int Go.IntKind.i64 n3))), (Option.some (Go.Eng.AV.sc (Go.Eng.SV.int Go.IntKind.i64 n4)))] [(Option.some (Go.Eng.HE.mk Bool.false (Go.Eng.HB.rows (Go.Sa.B.i64 l4)))), (Option.some (Go.Eng.HE.mk Bool.false (Go.Eng.HB.exp (Option.some 116) [(Go.Eng.SV.ptr 1 0 0), (Go.Eng.SV.slc 2 Option.none b5)]))), (Option.some (Go.Eng.HE.mk Bool.false (Go.Eng.HB.rows (Go.Sa.B.u8 l5))))]) (KL Go.Eng.Ex.normal [(Option.some (Go.Eng.AV.sc (Go.Eng.SV.ptr 1 0 0)))] [(Option.some (Go.Eng.HE.mk Bool.false (Go.Eng.HB.rows (Go.Sa.B.i64 l1)))), (Option.some (Go.Eng.HE.mk Bool.false (Go.Eng.HB.exp (Option.some 116) [Go.Eng.SV.nilp, (Go.Eng.SV.slc 2 Option.none b2)]))), (Option.some (Go.Eng.HE.mk Bool.false (Go.Eng.HB.rows (Go.Sa.B.u8 l2))))]) := by kernel_rfl
theorem le_impl_yregsText_w_0b1 (N : Nat) {R : Type} (b1 : Bool) (n : Int) (n1 : Int) (l1 : List Int) (b2 : Bool) (l2 : List Int) (KL : Ex → List (Option AV) → Hp E → Option R) : ∀ (f : Nat), iterK (E := E) (O_impl_yregsText_w N) (fun {R} => LI (noIt) 1 17 sl_impl_yregsText_w (R := R)) J_impl_yregsText_w 1 17 0 [3, 6, 7, 8] [3] (body Go.Proofs.Try.f70 0) f [(Option.some (Go.Eng.AV.sc (Go.Eng.SV.ptr 1 0 0))), (Option.some (Go.Eng.AV.sc (Go.Eng.SV.slc 0 Option.none b1))), (Option.some (Go.Eng.AV.sc (Go.Eng.SV.int Go.IntKind.i64 n))), (Option.some (Go.Eng.AV.sc (Go.Eng.SV.int Go.IntKind.i64 n1)))] [(Option.some (Go.Eng.HE.mk Bool.false (Go.Eng.HB.rows (Go.Sa.B.i64 l1)))), (Option.some (Go.Eng.HE.mk Bool.false (Go.Eng.HB.exp (Option.some 116) [Go.Eng.SV.nilp, (Go.Eng.SV.slc 2 Option.none b2)]))), (Option.some (Go.Eng.HE.mk Bool.false (Go.Eng.HB.rows (Go.Sa.B.u8 l2))))] KL = l_impl_yregsText_w_0b1 N b1 n n1 l1 b2 l2 (KL Go.Eng.Ex.normal [(Option.some (Go.Eng.AV.sc (Go.Eng.SV.ptr 1 0 0)))] [(Option.some (Go.Eng.HE.mk Bool.false (Go.Eng.HB.rows (Go.Sa.B.i64 l1)))), (Option.some (Go.Eng.HE.mk Bool.false (Go.Eng.HB.exp (Option.some 116) [Go.Eng.SV.nilp, (Go.Eng.SV.slc 2 Option.none b2)]))), (Option.some (Go.Eng.HE.mk Bool.false (Go.Eng.HB.rows (Go.Sa.B.u8 l2))))]) (fun l12 b9 l13 => KL Go.Eng.Ex.normal [(Option.some (Go.Eng.AV.sc (Go.Eng.SV.ptr 1 0 0)))] [(Option.some (Go.Eng.HE.mk Bool.false (Go.Eng.HB.rows (Go.Sa.B.i64 l12)))), (Option.some (Go.Eng.HE.mk Bool.false (Go.Eng.HB.exp (Option.some 116) [(Go.Eng.SV.ptr 1 0 0), (Go.Eng.SV.slc 2 Option.none b9)]))), (Option.some (Go.Eng.HE.mk Bool.false (Go.Eng.HB.rows (Go.Sa.B.u8 l13))))]) f  := by
  intro f
  induction f with
  | zero => intros; rfl
  | succ f ih =>
    rw [iterK_succ, se_impl_yregsText_w_0b1]
    exact (congrArg (fun z0 => s_impl_yregsText_w_0b1 N b1 n n1 l1 b2 l2  z0 (KL Go.Eng.Ex.normal [(Option.some (Go.Eng.AV.sc (Go.Eng.SV.ptr 1 0 0)))] [(Option.some (Go.Eng.HE.mk Bool.false (Go.Eng.HB.rows (Go.Sa.B.i64 l1)))), (Option.some (Go.Eng.HE.mk Bool.false (Go.Eng.HB.exp (Option.some 116) [Go.Eng.SV.nilp, (Go.Eng.SV.slc 2 Option.none b2)]))), (Option.some (Go.Eng.HE.mk Bool.false (Go.Eng.HB.rows (Go.Sa.B.u8 l2))))])) (funext fun b4 => funext fun n3 => funext fun n4 => funext fun l4 => funext fun b5 => funext fun l5 => le_impl_yregsText_w_0 N b4 n3 l4 KL f n4 b5 l5))
def i_impl_yregsText_w_0 (N : Nat) {R : Type} (vs : List (Option AV)) (H : Hp E) (KL : Ex → List (Option AV) → Hp E → Option R) : Option R :=
  match vs, H with
  | [(Option.some (Go.Eng.AV.sc (Go.Eng.SV.ptr 1 0 0))), (Option.some (Go.Eng.AV.sc (Go.Eng.SV.slc 0 Option.none b1))), (Option.some (Go.Eng.AV.sc (Go.Eng.SV.int Go.IntKind.i64 n))), (Option.some (Go.Eng.AV.sc (Go.Eng.SV.int Go.IntKind.i64 n1)))], [(Option.some (Go.Eng.HE.mk Bool.false (Go.Eng.HB.rows (Go.Sa.B.i64 l1)))), (Option.some (Go.Eng.HE.mk Bool.false (Go.Eng.HB.exp (Option.some 116) [Go.Eng.SV.nilp, (Go.Eng.SV.slc 2 Option.none b2)]))), (Option.some (Go.Eng.HE.mk Bool.false (Go.Eng.HB.rows (Go.Sa.B.u8 l2))))] => c_impl_yregsText_w_0b1 N b1 n n1 l1 b2 l2  (KL Go.Eng.Ex.normal [(Option.some (Go.Eng.AV.sc (Go.Eng.SV.ptr 1 0 0)))] [(Option.some (Go.Eng.HE.mk Bool.false (Go.Eng.HB.rows (Go.Sa.B.i64 l1)))), (Option.some (Go.Eng.HE.mk Bool.false (Go.Eng.HB.exp (Option.some 116) [Go.Eng.SV.nilp, (Go.Eng.SV.slc 2 Option.none b2)]))), (Option.some (Go.Eng.HE.mk Bool.false (Go.Eng.HB.rows (Go.Sa.B.u8 l2))))]) (fun l14 b10 l15 => KL Go.Eng.Ex.normal [(Option.some (Go.Eng.AV.sc (Go.Eng.SV.ptr 1 0 0)))] [(Option.some (Go.Eng.HE.mk Bool.false (Go.Eng.HB.rows (Go.Sa.B.i64 l14)))), (Option.some (Go.Eng.HE.mk Bool.false (Go.Eng.HB.exp (Option.some 116) [(Go.Eng.SV.ptr 1 0 0), (Go.Eng.SV.slc 2 Option.none b10)]))), (Option.some (Go.Eng.HE.mk Bool.false (Go.Eng.HB.rows (Go.Sa.B.u8 l15))))])
  | _, _ => none
noncomputable def IT_impl_yregsText_w_0 (N : Nat) : Its E := addIt 0 (i_impl_yregsText_w_0 N) (noIt)
theorem IT_impl_yregsText_w_0_ok (N : Nat) : ItOk (IT_impl_yregsText_w_0 N) 1 17 sl_impl_yregsText_w (lsB Go.Proofs.Try.f70 [0]) :=
  addItB_ok (inner := []) ok (O_impl_yregsText_w_ok N) (jn_ok _ _ _) (noIt_ok) rfl (by kernel_rfl) rfl fun vs H KL r h => by
    unfold i_impl_yregsText_w_0 at h
    split at h
    · exact ⟨_, (le_impl_yregsText_w_0b1 N _ _ _ _ _ _ KL N).trans h⟩
    · cases h
def g_impl_yregsText_w (N : Nat) {R : Type} (b : Bool) (l : List Int) (k : ByteArray → (List Int) → Option R) : Option R :=
  (c_impl_yregsText_w_0b1 N b (((List.length l) : Nat) : Int) (0 : Int) l Bool.true [] (
  (k (ByteArray.mk (List.toArray [])) l)) (fun l7 b7 l8 =>
  (cond b7
  (k (ByteArray.mk (List.toArray [])) l7)
  (cond ((Nat.blt 0 (List.length l8)) && (Nat.ble (List.length l8) 9223372036854775807))
    (k (Go.Eng.toBytes l8) l7)
    none))))
theorem e_impl_yregsText_w (N : Nat) {R : Type} (b : Bool) (l : List Int) (K : AV → Hp E → Option R) :
    runFnI (E := E) (O_impl_yregsText_w N) (IT_impl_yregsText_w_0 N) sl_impl_yregsText_w J_impl_yregsText_w Go.Proofs.Try.f70 [(Go.Eng.AV.sc (Go.Eng.SV.slc 0 Option.none b))] [(Option.some (Go.Eng.HE.mk Bool.false (Go.Eng.HB.rows (Go.Sa.B.i64 l))))] K =
      g_impl_yregsText_w N b l (fun s2 l9 => K (Go.Eng.AV.sc (Go.Eng.SV.str s2)) [(Option.some (Go.Eng.HE.mk Bool.false (Go.Eng.HB.rows (Go.Sa.B.i64 l9))))]) := by kernel_rfl
def o_impl_yregsText_w (N : Nat) {R : Type} (args : List AV) (H : Hp E) (K : AV → Hp E → Option R) : Option R :=
  match args, H with
  | [(Go.Eng.AV.sc (Go.Eng.SV.slc 0 Option.none b))], [(Option.some (Go.Eng.HE.mk Bool.false (Go.Eng.HB.rows (Go.Sa.B.i64 l))))] => g_impl_yregsText_w N b l (fun s2 l9 => K (Go.Eng.AV.sc (Go.Eng.SV.str s2)) [(Option.some (Go.Eng.HE.mk Bool.false (Go.Eng.HB.rows (Go.Sa.B.i64 l9))))])
  | _, _ => none
theorem o_impl_yregsText_w_ok (N : Nat) : FnOk E 70 (o_impl_yregsText_w N) := by
  intro R args H K r h
  unfold o_impl_yregsText_w at h
  dsimp only at h
  split at h
  · exact fnB_ok (ids := [0]) (top := [0]) ok (O_impl_yregsText_w_ok N) (jn_ok _ _ _) Go.Proofs.Try.func70 (by kernel_rfl) (IT := IT_impl_yregsText_w_0 N) (sl := sl_impl_yregsText_w) (J := J_impl_yregsText_w) (K := K) (H := [(Option.some (Go.Eng.HE.mk Bool.false (Go.Eng.HB.rows (Go.Sa.B.i64 _))))]) (IT_impl_yregsText_w_0_ok N) (by kernel_rfl) rfl ((e_impl_yregsText_w N _ _ K).trans h)
  · cases h
/-! ### loop.example/g00038/impl.yjoin -/
abbrev sl_impl_yjoin_w : SlotT := []
abbrev J_impl_yjoin_w : JT := jn [] [] []
noncomputable def O_impl_yjoin_w (N : Nat) : Orc E := addFn 111 osp_111 (noFn)
theorem O_impl_yjoin_w_ok (N : Nat) : OrcOk (O_impl_yjoin_w N) := addFn_ok osp_111_ok (noFn_ok)
def g_impl_yjoin_w (N : Nat) {R : Type} (b : Bool) (l : List ByteArray) (k : ByteArray → Option R) : Option R :=
  (cond (Go.Eng.joinOk l (ByteArray.mk (List.toArray [])))
  (k (Go.Eng.joinB l (ByteArray.mk (List.toArray []))))
  none)
theorem e_impl_yjoin_w (N : Nat) {R : Type} (b : Bool) (l : List ByteArray) (K : AV → Hp E → Option R) :
    runFnI (E := E) (O_impl_yjoin_w N) (noIt) sl_impl_yjoin_w J_impl_yjoin_w Go.Proofs.Try.f68 [(Go.Eng.AV.sc (Go.Eng.SV.slc 0 Option.none b))] [(Option.some (Go.Eng.HE.mk Bool.false (Go.Eng.HB.rows (Go.Sa.B.str l))))] K =
      g_impl_yjoin_w N b l (fun s => K (Go.Eng.AV.sc (Go.Eng.SV.str s)) [(Option.some (Go.Eng.HE.mk Bool.false (Go.Eng.HB.rows (Go.Sa.B.str l))))]) := by kernel_rfl
def o_impl_yjoin_w (N : Nat) {R : Type} (args : List AV) (H : Hp E) (K : AV → Hp E → Option R) : Option R :=
  match args, H with
  | [(Go.Eng.AV.sc (Go.Eng.SV.slc 0 Option.none b))], [(Option.some (Go.Eng.HE.mk Bool.false (Go.Eng.HB.rows (Go.Sa.B.str l))))] => g_impl_yjoin_w N b l (fun s => K (Go.Eng.AV.sc (Go.Eng.SV.str s)) [(Option.some (Go.Eng.HE.mk Bool.false (Go.Eng.HB.rows (Go.Sa.B.str l))))])
  | _, _ => none
theorem o_impl_yjoin_w_ok (N : Nat) : FnOk E 68 (o_impl_yjoin_w N) := by
  intro R args H K r h
  unfold o_impl_yjoin_w at h
  dsimp only at h
  split at h
  · exact fnB_ok (ids := []) (top := []) ok (O_impl_yjoin_w_ok N) (jn_ok _ _ _) Go.Proofs.Try.func68 (by kernel_rfl) (IT := noIt) (sl := sl_impl_yjoin_w) (J := J_impl_yjoin_w) (K := K) (H := [(Option.some (Go.Eng.HE.mk Bool.false (Go.Eng.HB.rows (Go.Sa.B.str _))))]) (noIt_ok) (by kernel_rfl) rfl ((e_impl_yjoin_w N _ _ K).trans h)
  · cases h
/-! ### loop.example/g00038/impl.ymod -/
abbrev sl_impl_ymod : SlotT := []
abbrev J_impl_ymod : JT := jn [] [(9, [(0, .i .i64)])] []
noncomputable def O_impl_ymod (N : Nat) : Orc E := noFn
theorem O_impl_ymod_ok (N : Nat) : OrcOk (O_impl_ymod N) := noFn_ok
def g_impl_ymod (N : Nat) {R : Type} (n : Int) (n1 : Int) (k : Int → Option R) : Option R :=
  (cond (n1 == (0 : Int))
  none
  (oK (cond (decide (((Int.tmod n n1) < (0 : Int))))
      (some (Go.IntKind.wrap Go.IntKind.i64 ((Int.tmod n n1) + n1)))
      (some (Int.tmod n n1))) fun j =>
    (k j)))
theorem e_impl_ymod (N : Nat) {R : Type} (n : Int) (n1 : Int) (K : AV → Hp E → Option R) :
    runFnI (E := E) (O_impl_ymod N) (noIt) sl_impl_ymod J_impl_ymod Go.Proofs.Try.f110 [(Go.Eng.AV.sc (Go.Eng.SV.int Go.IntKind.i64 n)), (Go.Eng.AV.sc (Go.Eng.SV.int Go.IntKind.i64 n1))] [] K =
      g_impl_ymod N n n1 (fun n2 => K (Go.Eng.AV.sc (Go.Eng.SV.int Go.IntKind.i64 n2)) []) := by kernel_rfl
def o_impl_ymod (N : Nat) {R : Type} (args : List AV) (H : Hp E) (K : AV → Hp E → Option R) : Option R :=
  match args, H with
  | [(Go.Eng.AV.sc (Go.Eng.SV.int Go.IntKind.i64 n)), (Go.Eng.AV.sc (Go.Eng.SV.int Go.IntKind.i64 n1))], [] => g_impl_ymod N n n1 (fun n2 => K (Go.Eng.AV.sc (Go.Eng.SV.int Go.IntKind.i64 n2)) [])
  | _, _ => none
theorem o_impl_ymod_ok (N : Nat) : FnOk E 110 (o_impl_ymod N) := by
  intro R args H K r h
  unfold o_impl_ymod at h
  dsimp only at h
  split at h
  · exact fnB_ok (ids := []) (top := []) ok (O_impl_ymod_ok N) (jn_ok _ _ _) Go.Proofs.Try.func110 (by kernel_rfl) (IT := noIt) (sl := sl_impl_ymod) (J := J_impl_ymod) (K := K) (H := []) (noIt_ok) (by kernel_rfl) rfl ((e_impl_ymod N _ _ K).trans h)
  · cases h
/-! ### loop.example/g00038/impl.ymix -/
abbrev sl_impl_ymix : SlotT := [(0, ([0, 5, 11, 12], [5]))]
abbrev J_impl_ymix : JT := jn [] [] []
noncomputable def O_impl_ymix (N : Nat) : Orc E := addFn 110 (o_impl_ymod N) (noFn)
theorem O_impl_ymix_ok (N : Nat) : OrcOk (O_impl_ymix N) := addFn_ok (o_impl_ymod_ok N) (noFn_ok)
def s_impl_ymix_0 (N : Nat) {R : Type} (s1 : ByteArray) (n3 : Int) (n2 : Int) (n4 : Int) (ag : Int → Int → Option R)  (kN : Int → Option R) : Option R :=
  (cond (decide ((n4 < n3)))
  (cond ((decide (((0 : Int) ≤ n4))) && (decide ((n4 < (((ByteArray.size s1) : Nat) : Int)))))
    (ag (Int.tmod (Go.IntKind.wrap Go.IntKind.i64 ((Go.IntKind.wrap Go.IntKind.i64 ((Go.IntKind.wrap Go.IntKind.i64 (n2 * (65599 : Int))) + (Go.IntKind.wrap Go.IntKind.i64 (Go.Eng.bt s1 (Int.toNat n4))))) + (1 : Int))) (2147483629 : Int)) (Go.IntKind.wrap Go.IntKind.i64 (n4 + (1 : Int))))
    none)
  (kN n2))
def l_impl_ymix_0 (N : Nat) {R : Type} (s1 : ByteArray) (n3 : Int) (kN : Int → Option R) : Nat → Int → Int → Option R
  | 0, _, _ => none
  | f + 1, n2, n4 => s_impl_ymix_0 N s1 n3 n2 n4 (fun n2 n4 => l_impl_ymix_0 N s1 n3 kN f n2 n4)  kN
def c_impl_ymix_0 (N : Nat) {R : Type} (s1 : ByteArray) (n3 : Int) (n2 : Int) (n4 : Int) (kN : Int → Option R) : Option R := l_impl_ymix_0 N s1 n3 kN N n2 n4
theorem se_impl_ymix_0 (N : Nat) {R : Type} (s1 : ByteArray) (n3 : Int) (n2 : Int) (n4 : Int) (AG : List (Option AV) → Hp E → Option R) (KL : Ex → List (Option AV) → Hp E → Option R) :
    iterStep (E := E) (O_impl_ymix N) (fun {R} => LI (noIt) 0 29 sl_impl_ymix (R := R)) J_impl_ymix 0 29 0 [0, 5, 11, 12] [5] (body Go.Proofs.Try.f67 0) AG KL [(Option.some (Go.Eng.AV.sc (Go.Eng.SV.str s1))), (Option.some (Go.Eng.AV.sc (Go.Eng.SV.int Go.IntKind.i64 n2))), (Option.some (Go.Eng.AV.sc (Go.Eng.SV.int Go.IntKind.i64 n3))), (Option.some (Go.Eng.AV.sc (Go.Eng.SV.int Go.IntKind.i64 n4)))] [] =
      s_impl_ymix_0 N s1 n3 n2 n4 (fun n2 n4 => AG [(Option.some (Go.Eng.AV.sc (Go.Eng.SV.str s1))), (Option.some (Go.Eng.AV.sc (Go.Eng.SV.int Go.IntKind.i64 n2))), (Option.some (Go.Eng.AV.sc (Go.Eng.SV.int Go.IntKind.i64 n3))), (Option.some (Go.Eng.AV.sc (Go.Eng.SV.int Go.IntKind.i64 n4)))] [])  (fun n7 => KL Go.Eng.Ex.normal [(Option.some (Go.Eng.AV.sc (Go.Eng.SV.int Go.IntKind.i64 n7)))] []) := by kernel_rfl
theorem le_impl_ymix_0 (N : Nat) {R : Type} (s1 : ByteArray) (n3 : Int) (KL : Ex → List (Option AV) → Hp E → Option R) : ∀ (f : Nat), ∀ (n2 : Int) (n4 : Int), iterK (E := E) (O_impl_ymix N) (fun {R} => LI (noIt) 0 29 sl_impl_ymix (R := R)) J_impl_ymix 0 29 0 [0, 5, 11, 12] [5] (body Go.Proofs.Try.f67 0) f [(Option.some (Go.Eng.AV.sc (Go.Eng.SV.str s1))), (Option.some (Go.Eng.AV.sc (Go.Eng.SV.int Go.IntKind.i64 n2))), (Option.some (Go.Eng.AV.sc (Go.Eng.SV.int Go.IntKind.i64 n3))), (Option.some (Go.Eng.AV.sc (Go.Eng.SV.int Go.IntKind.i64 n4)))] [] KL = l_impl_ymix_0 N s1 n3 (fun n7 => KL Go.Eng.Ex.normal [(Option.some (Go.Eng.AV.sc (Go.Eng.SV.int Go.IntKind.i64 n7)))] []) f n2 n4 := by
  intro f
  induction f with
  | zero => intros; rfl
  | succ f ih =>
    intro n2 n4
    rw [iterK_succ, se_impl_ymix_0]
    exact (congrArg (fun z0 => s_impl_ymix_0 N s1 n3 n2 n4 z0 (fun n7 => KL Go.Eng.Ex.normal [(Option.some (Go.Eng.AV.sc (Go.Eng.SV.int Go.IntKind.i64 n7)))] [])) (funext fun n2 => funext fun n4 => ih n2 n4))
def i_impl_ymix_0 (N : Nat) {R : Type} (vs : List (Option AV)) (H : Hp E) (KL : Ex → List (Option AV) → Hp E → Option R) : Option R :=
  match vs, H with
  | [(Option.some (Go.Eng.AV.sc (Go.Eng.SV.str s1))), (Option.some (Go.Eng.AV.sc (Go.Eng.SV.int Go.IntKind.i64 n2))), (Option.some (Go.Eng.AV.sc (Go.Eng.SV.int Go.IntKind.i64 n3))), (Option.some (Go.Eng.AV.sc (Go.Eng.SV.int Go.IntKind.i64 n4)))], [] => c_impl_ymix_0 N s1 n3 n2 n4 (fun n8 => KL Go.Eng.Ex.normal [(Option.some (Go.Eng.AV.sc (Go.Eng.SV.int Go.IntKind.i64 n8)))] [])
  | _, _ => none
noncomputable def IT_impl_ymix_0 (N : Nat) : Its E := addIt 0 (i_impl_ymix_0 N) (noIt)
theorem IT_impl_ymix_0_ok (N : Nat) : ItOk (IT_impl_ymix_0 N) 0 29 sl_impl_ymix (lsB Go.Proofs.Try.f67 [0]) :=
  addItB_ok (inner := []) ok (O_impl_ymix_ok N) (jn_ok _ _ _) (noIt_ok) rfl (by kernel_rfl) rfl fun vs H KL r h => by
    unfold i_impl_ymix_0 at h
    split at h
    · exact ⟨_, (le_impl_ymix_0 N _ _ KL N _ _).trans h⟩
    · cases h
def g_impl_ymix (N : Nat) {R : Type} (s : ByteArray) (n : Int) (k : Int → Option R) : Option R :=
  (g_impl_ymod N n (2147483629 : Int) fun n1 =>
  (c_impl_ymix_0 N s (((ByteArray.size s) : Nat) : Int) (Go.IntKind.wrap Go.IntKind.i64 (n1 + (1 : Int))) (0 : Int) fun n5 =>
  (k (Int.tmod (Go.IntKind.wrap Go.IntKind.i64 ((Go.IntKind.wrap Go.IntKind.i64 (n5 * (40503 : Int))) + (77 : Int))) (2147483629 : Int)))))
theorem e_impl_ymix (N : Nat) {R : Type} (s : ByteArray) (n : Int) (K : AV → Hp E → Option R) :
    runFnI (E := E) (O_impl_ymix N) (IT_impl_ymix_0 N) sl_impl_ymix J_impl_ymix Go.Proofs.Try.f67 [(Go.Eng.AV.sc (Go.Eng.SV.str s)), (Go.Eng.AV.sc (Go.Eng.SV.int Go.IntKind.i64 n))] [] K =
      g_impl_ymix N s n (fun n6 => K (Go.Eng.AV.sc (Go.Eng.SV.int Go.IntKind.i64 n6)) []) := by kernel_rfl
def o_impl_ymix (N : Nat) {R : Type} (args : List AV) (H : Hp E) (K : AV → Hp E → Option R) : Option R :=
  match args, H with
  | [(Go.Eng.AV.sc (Go.Eng.SV.str s)), (Go.Eng.AV.sc (Go.Eng.SV.int Go.IntKind.i64 n))], [] => g_impl_ymix N s n (fun n6 => K (Go.Eng.AV.sc (Go.Eng.SV.int Go.IntKind.i64 n6)) [])
  | _, _ => none
theorem o_impl_ymix_ok (N : Nat) : FnOk E 67 (o_impl_ymix N) := by
  intro R args H K r h
  unfold o_impl_ymix at h
  dsimp only at h
  split at h
  · exact fnB_ok (ids := [0]) (top := [0]) ok (O_impl_ymix_ok N) (jn_ok _ _ _) Go.Proofs.Try.func67 (by kernel_rfl) (IT := IT_impl_ymix_0 N) (sl := sl_impl_ymix) (J := J_impl_ymix) (K := K) (H := []) (IT_impl_ymix_0_ok N) (by kernel_rfl) rfl ((e_impl_ymix N _ _ K).trans h)
  · cases h
end Go.Sa
