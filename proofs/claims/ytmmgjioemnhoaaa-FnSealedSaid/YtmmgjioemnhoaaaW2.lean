import Derived.Test.YtmmgjioemnhoaaaSpec
import Derived.Test.YtmmgjioemnhoaaaPLb
import Derived.Test.YtmmgjioemnhoaaaW1
set_option linter.all false
namespace Go.Sa
open Go Go.Eng Go.Proofs
set_option maxRecDepth 100000
/-! ### loop.example/g00038/impl.ybig -/
abbrev sl_impl_ybig_w : SlotT := [(0, ([5, 6, 7], [2]))]
abbrev J_impl_ybig_w : JT := jn [] [] []
noncomputable def O_impl_ybig_w (N : Nat) : Orc E := noFn
theorem O_impl_ybig_w_ok (N : Nat) : OrcOk (O_impl_ybig_w N) := noFn_ok
def s_impl_ybig_w_0 (N : Nat) {R : Type} (b1 : Bool) (n : Int) (l1 : List ByteArray) (n1 : Int) (ag : Int → Option R)  (kR : Option R) (kN : Option R) : Option R :=
  (cond (decide ((n1 < n)))
  (cond ((decide (((0 : Int) ≤ n1))) && (decide ((n1 < (((List.length l1) : Nat) : Int)))))
    (elemK l1 (Int.toNat n1) fun x =>
      (cond (decide (((((ByteArray.size x) : Nat) : Int) > (65536 : Int))))
      kR
      (ag (Go.IntKind.wrap Go.IntKind.i64 (n1 + (1 : Int))))))
    none)
  kN)
def l_impl_ybig_w_0 (N : Nat) {R : Type} (b1 : Bool) (n : Int) (l1 : List ByteArray) (kR : Option R) (kN : Option R) : Nat → Int → Option R
  | 0, _ => none
  | f + 1, n1 => s_impl_ybig_w_0 N b1 n l1 n1 (fun n1 => l_impl_ybig_w_0 N b1 n l1 kR kN f n1)  kR kN
def c_impl_ybig_w_0 (N : Nat) {R : Type} (b1 : Bool) (n : Int) (l1 : List ByteArray) (n1 : Int) (kR : Option R) (kN : Option R) : Option R := l_impl_ybig_w_0 N b1 n l1 kR kN N n1
theorem se_impl_ybig_w_0 (N : Nat) {R : Type} (b1 : Bool) (n : Int) (l1 : List ByteArray) (n1 : Int) (AG : List (Option AV) → Hp E → Option R) (KL : Ex → List (Option AV) → Hp E → Option R) :
    iterStep (E := E) (O_impl_ybig_w N) (fun {R} => LI (noIt) 1 15 sl_impl_ybig_w (R := R)) J_impl_ybig_w 1 15 0 [5, 6, 7] [2] (body Go.Proofs.Try.f92 0) AG KL [(Option.some (Go.Eng.AV.sc (Go.Eng.SV.slc 0 Option.none b1))), (Option.some (Go.Eng.AV.sc (Go.Eng.SV.int Go.IntKind.i64 n))), (Option.some (Go.Eng.AV.sc (Go.Eng.SV.int Go.IntKind.i64 n1)))] [(Option.some (Go.Eng.HE.mk Bool.false (Go.Eng.HB.rows (Go.Sa.B.str l1))))] =
      s_impl_ybig_w_0 N b1 n l1 n1 (fun n1 => AG [(Option.some (Go.Eng.AV.sc (Go.Eng.SV.slc 0 Option.none b1))), (Option.some (Go.Eng.AV.sc (Go.Eng.SV.int Go.IntKind.i64 n))), (Option.some (Go.Eng.AV.sc (Go.Eng.SV.int Go.IntKind.i64 n1)))] [(Option.some (Go.Eng.HE.mk Bool.false (Go.Eng.HB.rows (Go.Sa.B.str l1))))])  (KL Go.Eng.Ex.ret [(Option.some (Go.Eng.AV.sc (Go.Eng.SV.bool Bool.true)))] [(Option.some (Go.Eng.HE.mk Bool.false (Go.Eng.HB.rows (Go.Sa.B.str l1))))]) (KL Go.Eng.Ex.normal [Option.none] [(Option.some (Go.Eng.HE.mk Bool.false (Go.Eng.HB.rows (Go.Sa.B.str l1))))]) := by kernel_rfl
theorem le_impl_ybig_w_0 (N : Nat) {R : Type} (b1 : Bool) (n : Int) (l1 : List ByteArray) (KL : Ex → List (Option AV) → Hp E → Option R) : ∀ (f : Nat), ∀ (n1 : Int), iterK (E := E) (O_impl_ybig_w N) (fun {R} => LI (noIt) 1 15 sl_impl_ybig_w (R := R)) J_impl_ybig_w 1 15 0 [5, 6, 7] [2] (body Go.Proofs.Try.f92 0) f [(Option.some (Go.Eng.AV.sc (Go.Eng.SV.slc 0 Option.none b1))), (Option.some (Go.Eng.AV.sc (Go.Eng.SV.int Go.IntKind.i64 n))), (Option.some (Go.Eng.AV.sc (Go.Eng.SV.int Go.IntKind.i64 n1)))] [(Option.some (Go.Eng.HE.mk Bool.false (Go.Eng.HB.rows (Go.Sa.B.str l1))))] KL = l_impl_ybig_w_0 N b1 n l1 (KL Go.Eng.Ex.ret [(Option.some (Go.Eng.AV.sc (Go.Eng.SV.bool Bool.true)))] [(Option.some (Go.Eng.HE.mk Bool.false (Go.Eng.HB.rows (Go.Sa.B.str l1))))]) (KL Go.Eng.Ex.normal [Option.none] [(Option.some (Go.Eng.HE.mk Bool.false (Go.Eng.HB.rows (Go.Sa.B.str l1))))]) f n1 := by
  intro f
  induction f with
  | zero => intros; rfl
  | succ f ih =>
    intro n1
    rw [iterK_succ, se_impl_ybig_w_0]
    exact (congrArg (fun z0 => s_impl_ybig_w_0 N b1 n l1 n1 z0 (KL Go.Eng.Ex.ret [(Option.some (Go.Eng.AV.sc (Go.Eng.SV.bool Bool.true)))] [(Option.some (Go.Eng.HE.mk Bool.false (Go.Eng.HB.rows (Go.Sa.B.str l1))))]) (KL Go.Eng.Ex.normal [Option.none] [(Option.some (Go.Eng.HE.mk Bool.false (Go.Eng.HB.rows (Go.Sa.B.str l1))))])) (funext fun n1 => ih n1))
def i_impl_ybig_w_0 (N : Nat) {R : Type} (vs : List (Option AV)) (H : Hp E) (KL : Ex → List (Option AV) → Hp E → Option R) : Option R :=
  match vs, H with
  | [(Option.some (Go.Eng.AV.sc (Go.Eng.SV.slc 0 Option.none b1))), (Option.some (Go.Eng.AV.sc (Go.Eng.SV.int Go.IntKind.i64 n))), (Option.some (Go.Eng.AV.sc (Go.Eng.SV.int Go.IntKind.i64 n1)))], [(Option.some (Go.Eng.HE.mk Bool.false (Go.Eng.HB.rows (Go.Sa.B.str l1))))] => c_impl_ybig_w_0 N b1 n l1 n1 (KL Go.Eng.Ex.ret [(Option.some (Go.Eng.AV.sc (Go.Eng.SV.bool Bool.true)))] [(Option.some (Go.Eng.HE.mk Bool.false (Go.Eng.HB.rows (Go.Sa.B.str l1))))]) (KL Go.Eng.Ex.normal [Option.none] [(Option.some (Go.Eng.HE.mk Bool.false (Go.Eng.HB.rows (Go.Sa.B.str l1))))])
  | _, _ => none
noncomputable def IT_impl_ybig_w_0 (N : Nat) : Its E := addIt 0 (i_impl_ybig_w_0 N) (noIt)
theorem IT_impl_ybig_w_0_ok (N : Nat) : ItOk (IT_impl_ybig_w_0 N) 1 15 sl_impl_ybig_w (lsB Go.Proofs.Try.f92 [0]) :=
  addItB_ok (inner := []) ok (O_impl_ybig_w_ok N) (jn_ok _ _ _) (noIt_ok) rfl (by kernel_rfl) rfl fun vs H KL r h => by
    unfold i_impl_ybig_w_0 at h
    split at h
    · exact ⟨_, (le_impl_ybig_w_0 N _ _ _ KL N _).trans h⟩
    · cases h
def g_impl_ybig_w (N : Nat) {R : Type} (b : Bool) (l : List ByteArray) (k : Bool → Option R) : Option R :=
  (c_impl_ybig_w_0 N b (((List.length l) : Nat) : Int) l (0 : Int) (
  (k Bool.true)) (
  (k Bool.false)))
theorem e_impl_ybig_w (N : Nat) {R : Type} (b : Bool) (l : List ByteArray) (K : AV → Hp E → Option R) :
    runFnI (E := E) (O_impl_ybig_w N) (IT_impl_ybig_w_0 N) sl_impl_ybig_w J_impl_ybig_w Go.Proofs.Try.f92 [(Go.Eng.AV.sc (Go.Eng.SV.slc 0 Option.none b))] [(Option.some (Go.Eng.HE.mk Bool.false (Go.Eng.HB.rows (Go.Sa.B.str l))))] K =
      g_impl_ybig_w N b l (fun b2 => K (Go.Eng.AV.sc (Go.Eng.SV.bool b2)) [(Option.some (Go.Eng.HE.mk Bool.false (Go.Eng.HB.rows (Go.Sa.B.str l))))]) := by kernel_rfl
def o_impl_ybig_w (N : Nat) {R : Type} (args : List AV) (H : Hp E) (K : AV → Hp E → Option R) : Option R :=
  match args, H with
  | [(Go.Eng.AV.sc (Go.Eng.SV.slc 0 Option.none b))], [(Option.some (Go.Eng.HE.mk Bool.false (Go.Eng.HB.rows (Go.Sa.B.str l))))] => g_impl_ybig_w N b l (fun b2 => K (Go.Eng.AV.sc (Go.Eng.SV.bool b2)) [(Option.some (Go.Eng.HE.mk Bool.false (Go.Eng.HB.rows (Go.Sa.B.str l))))])
  | _, _ => none
theorem o_impl_ybig_w_ok (N : Nat) : FnOk E 92 (o_impl_ybig_w N) := by
  intro R args H K r h
  unfold o_impl_ybig_w at h
  dsimp only at h
  split at h
  · exact fnB_ok (ids := [0]) (top := [0]) ok (O_impl_ybig_w_ok N) (jn_ok _ _ _) Go.Proofs.Try.func92 (by kernel_rfl) (IT := IT_impl_ybig_w_0 N) (sl := sl_impl_ybig_w) (J := J_impl_ybig_w) (K := K) (H := [(Option.some (Go.Eng.HE.mk Bool.false (Go.Eng.HB.rows (Go.Sa.B.str _))))]) (IT_impl_ybig_w_0_ok N) (by kernel_rfl) rfl ((e_impl_ybig_w N _ _ K).trans h)
  · cases h
/-! ### loop.example/g00038/impl.ymod -/
abbrev sl_impl_ymod : SlotT := []
abbrev J_impl_ymod : JT := jn [] [(9, [(0, .i .i64)])] []
noncomputable def O_impl_ymod (N : Nat) : Orc E := noFn
theorem O_impl_ymod_ok (N : Nat) : OrcOk (O_impl_ymod N) := noFn_ok
def g_impl_ymod (N : Nat) {R : Type} (n : Int) (n1 : Int) (k : Int → Option R) : Option R :=
  (cond (n1 == (0 : Int))
  none
  (oK (cond (decide (((Int.tmod n n1) < (0 : Int))))
      (some (Go.IntKind.wrap Go.IntKind.i64 ((Int.tmod n n1) + n1)))
      (some (Int.tmod n n1))) fun j =>
    (k j)))
theorem e_impl_ymod (N : Nat) {R : Type} (n : Int) (n1 : Int) (K : AV → Hp E → Option R) :
    runFnI (E := E) (O_impl_ymod N) (noIt) sl_impl_ymod J_impl_ymod Go.Proofs.Try.f110 [(Go.Eng.AV.sc (Go.Eng.SV.int Go.IntKind.i64 n)), (Go.Eng.AV.sc (Go.Eng.SV.int Go.IntKind.i64 n1))] [] K =
      g_impl_ymod N n n1 (fun n2 => K (Go.Eng.AV.sc (Go.Eng.SV.int Go.IntKind.i64 n2)) []) := by kernel_rfl
def o_impl_ymod (N : Nat) {R : Type} (args : List AV) (H : Hp E) (K : AV → Hp E → Option R) : Option R :=
  match args, H with
  | [(Go.Eng.AV.sc (Go.Eng.SV.int Go.IntKind.i64 n)), (Go.Eng.AV.sc (Go.Eng.SV.int Go.IntKind.i64 n1))], [] => g_impl_ymod N n n1 (fun n2 => K (Go.Eng.AV.sc (Go.Eng.SV.int Go.IntKind.i64 n2)) [])
  | _, _ => none
theorem o_impl_ymod_ok (N : Nat) : FnOk E 110 (o_impl_ymod N) := by
  intro R args H K r h
  unfold o_impl_ymod at h
  dsimp only at h
  split at h
  · exact fnB_ok (ids := []) (top := []) ok (O_impl_ymod_ok N) (jn_ok _ _ _) Go.Proofs.Try.func110 (by kernel_rfl) (IT := noIt) (sl := sl_impl_ymod) (J := J_impl_ymod) (K := K) (H := []) (noIt_ok) (by kernel_rfl) rfl ((e_impl_ymod N _ _ K).trans h)
  · cases h
/-! ### loop.example/g00038/impl.ymix -/
abbrev sl_impl_ymix : SlotT := [(0, ([0, 5, 11, 12], [5]))]
abbrev J_impl_ymix : JT := jn [] [] []
noncomputable def O_impl_ymix (N : Nat) : Orc E := addFn 110 (o_impl_ymod N) (noFn)
theorem O_impl_ymix_ok (N : Nat) : OrcOk (O_impl_ymix N) := addFn_ok (o_impl_ymod_ok N) (noFn_ok)
def s_impl_ymix_0 (N : Nat) {R : Type} (s1 : ByteArray) (n3 : Int) (n2 : Int) (n4 : Int) (ag : Int → Int → Option R)  (kN : Int → Option R) : Option R :=
  (cond (decide ((n4 < n3)))
  (cond ((decide (((0 : Int) ≤ n4))) && (decide ((n4 < (((ByteArray.size s1) : Nat) : Int)))))
    (ag (Int.tmod (Go.IntKind.wrap Go.IntKind.i64 ((Go.IntKind.wrap Go.IntKind.i64 ((Go.IntKind.wrap Go.IntKind.i64 (n2 * (65599 : Int))) + (Go.IntKind.wrap Go.IntKind.i64 (Go.Eng.bt s1 (Int.toNat n4))))) + (1 : Int))) (2147483629 : Int)) (Go.IntKind.wrap Go.IntKind.i64 (n4 + (1 : Int))))
    none)
  (kN n2))
def l_impl_ymix_0 (N : Nat) {R : Type} (s1 : ByteArray) (n3 : Int) (kN : Int → Option R) : Nat → Int → Int → Option R
  | 0, _, _ => none
  | f + 1, n2, n4 => s_impl_ymix_0 N s1 n3 n2 n4 (fun n2 n4 => l_impl_ymix_0 N s1 n3 kN f n2 n4)  kN
def c_impl_ymix_0 (N : Nat) {R : Type} (s1 : ByteArray) (n3 : Int) (n2 : Int) (n4 : Int) (kN : Int → Option R) : Option R := l_impl_ymix_0 N s1 n3 kN N n2 n4
theorem se_impl_ymix_0 (N : Nat) {R : Type} (s1 : ByteArray) (n3 : Int) (n2 : Int) (n4 : Int) (AG : List (Option AV) → Hp E → Option R) (KL : Ex → List (Option AV) → Hp E → Option R) :
    iterStep (E := E) (O_impl_ymix N) (fun {R} => LI (noIt) 0 29 sl_impl_ymix (R := R)) J_impl_ymix 0 29 0 [0, 5, 11, 12] [5] (body Go.Proofs.Try.f67 0) AG KL [(Option.some (Go.Eng.AV.sc (Go.Eng.SV.str s1))), (Option.some (Go.Eng.AV.sc (Go.Eng.SV.int Go.IntKind.i64 n2))), (Option.some (Go.Eng.AV.sc (Go.Eng.SV.int Go.IntKind.i64 n3))), (Option.some (Go.Eng.AV.sc (Go.Eng.SV.int Go.IntKind.i64 n4)))] [] =
      s_impl_ymix_0 N s1 n3 n2 n4 (fun n2 n4 => AG [(Option.some (Go.Eng.AV.sc (Go.Eng.SV.str s1))), (Option.some (Go.Eng.AV.sc (Go.Eng.SV.int Go.IntKind.i64 n2))), (Option.some (Go.Eng.AV.sc (Go.Eng.SV.int Go.IntKind.i64 n3))), (Option.some (Go.Eng.AV.sc (Go.Eng.SV.int Go.IntKind.i64 n4)))] [])  (fun n7 => KL Go.Eng.Ex.normal [(Option.some (Go.Eng.AV.sc (Go.Eng.SV.int Go.IntKind.i64 n7)))] []) := by kernel_rfl
theorem le_impl_ymix_0 (N : Nat) {R : Type} (s1 : ByteArray) (n3 : Int) (KL : Ex → List (Option AV) → Hp E → Option R) : ∀ (f : Nat), ∀ (n2 : Int) (n4 : Int), iterK (E := E) (O_impl_ymix N) (fun {R} => LI (noIt) 0 29 sl_impl_ymix (R := R)) J_impl_ymix 0 29 0 [0, 5, 11, 12] [5] (body Go.Proofs.Try.f67 0) f [(Option.some (Go.Eng.AV.sc (Go.Eng.SV.str s1))), (Option.some (Go.Eng.AV.sc (Go.Eng.SV.int Go.IntKind.i64 n2))), (Option.some (Go.Eng.AV.sc (Go.Eng.SV.int Go.IntKind.i64 n3))), (Option.some (Go.Eng.AV.sc (Go.Eng.SV.int Go.IntKind.i64 n4)))] [] KL = l_impl_ymix_0 N s1 n3 (fun n7 => KL Go.Eng.Ex.normal [(Option.some (Go.Eng.AV.sc (Go.Eng.SV.int Go.IntKind.i64 n7)))] []) f n2 n4 := by
  intro f
  induction f with
  | zero => intros; rfl
  | succ f ih =>
    intro n2 n4
    rw [iterK_succ, se_impl_ymix_0]
    exact (congrArg (fun z0 => s_impl_ymix_0 N s1 n3 n2 n4 z0 (fun n7 => KL Go.Eng.Ex.normal [(Option.some (Go.Eng.AV.sc (Go.Eng.SV.int Go.IntKind.i64 n7)))] [])) (funext fun n2 => funext fun n4 => ih n2 n4))
def i_impl_ymix_0 (N : Nat) {R : Type} (vs : List (Option AV)) (H : Hp E) (KL : Ex → List (Option AV) → Hp E → Option R) : Option R :=
  match vs, H with
  | [(Option.some (Go.Eng.AV.sc (Go.Eng.SV.str s1))), (Option.some (Go.Eng.AV.sc (Go.Eng.SV.int Go.IntKind.i64 n2))), (Option.some (Go.Eng.AV.sc (Go.Eng.SV.int Go.IntKind.i64 n3))), (Option.some (Go.Eng.AV.sc (Go.Eng.SV.int Go.IntKind.i64 n4)))], [] => c_impl_ymix_0 N s1 n3 n2 n4 (fun n8 => KL Go.Eng.Ex.normal [(Option.some (Go.Eng.AV.sc (Go.Eng.SV.int Go.IntKind.i64 n8)))] [])
  | _, _ => none
noncomputable def IT_impl_ymix_0 (N : Nat) : Its E := addIt 0 (i_impl_ymix_0 N) (noIt)
theorem IT_impl_ymix_0_ok (N : Nat) : ItOk (IT_impl_ymix_0 N) 0 29 sl_impl_ymix (lsB Go.Proofs.Try.f67 [0]) :=
  addItB_ok (inner := []) ok (O_impl_ymix_ok N) (jn_ok _ _ _) (noIt_ok) rfl (by kernel_rfl) rfl fun vs H KL r h => by
    unfold i_impl_ymix_0 at h
    split at h
    · exact ⟨_, (le_impl_ymix_0 N _ _ KL N _ _).trans h⟩
    · cases h
def g_impl_ymix (N : Nat) {R : Type} (s : ByteArray) (n : Int) (k : Int → Option R) : Option R :=
  (g_impl_ymod N n (2147483629 : Int) fun n1 =>
  (c_impl_ymix_0 N s (((ByteArray.size s) : Nat) : Int) (Go.IntKind.wrap Go.IntKind.i64 (n1 + (1 : Int))) (0 : Int) fun n5 =>
  (k (Int.tmod (Go.IntKind.wrap Go.IntKind.i64 ((Go.IntKind.wrap Go.IntKind.i64 (n5 * (40503 : Int))) + (77 : Int))) (2147483629 : Int)))))
theorem e_impl_ymix (N : Nat) {R : Type} (s : ByteArray) (n : Int) (K : AV → Hp E → Option R) :
    runFnI (E := E) (O_impl_ymix N) (IT_impl_ymix_0 N) sl_impl_ymix J_impl_ymix Go.Proofs.Try.f67 [(Go.Eng.AV.sc (Go.Eng.SV.str s)), (Go.Eng.AV.sc (Go.Eng.SV.int Go.IntKind.i64 n))] [] K =
      g_impl_ymix N s n (fun n6 => K (Go.Eng.AV.sc (Go.Eng.SV.int Go.IntKind.i64 n6)) []) := by kernel_rfl
def o_impl_ymix (N : Nat) {R : Type} (args : List AV) (H : Hp E) (K : AV → Hp E → Option R) : Option R :=
  match args, H with
  | [(Go.Eng.AV.sc (Go.Eng.SV.str s)), (Go.Eng.AV.sc (Go.Eng.SV.int Go.IntKind.i64 n))], [] => g_impl_ymix N s n (fun n6 => K (Go.Eng.AV.sc (Go.Eng.SV.int Go.IntKind.i64 n6)) [])
  | _, _ => none
theorem o_impl_ymix_ok (N : Nat) : FnOk E 67 (o_impl_ymix N) := by
  intro R args H K r h
  unfold o_impl_ymix at h
  dsimp only at h
  split at h
  · exact fnB_ok (ids := [0]) (top := [0]) ok (O_impl_ymix_ok N) (jn_ok _ _ _) Go.Proofs.Try.func67 (by kernel_rfl) (IT := IT_impl_ymix_0 N) (sl := sl_impl_ymix) (J := J_impl_ymix) (K := K) (H := []) (IT_impl_ymix_0_ok N) (by kernel_rfl) rfl ((e_impl_ymix N _ _ K).trans h)
  · cases h
/-! ### loop.example/g00038/impl.Crypt -/
abbrev sl_impl_Crypt : SlotT := [(0, ([0, 1, 7, 22, 23], [7])), (2, ([0, 1, 7, 8, 9, 10, 22, 23], [0, 1, 7, 22, 23]))]
abbrev J_impl_Crypt : JT := jn [(1, [(18, .b)])] [] []
noncomputable def O_impl_Crypt (N : Nat) : Orc E := addFn 67 (o_impl_ymix N) (addFn 68 (o_impl_yjoin_w N) (addFn 69 (o_impl_PutWord N) (addFn 92 (o_impl_ybig_w N) (addFn 57 (o_impl_ylongKey_w N) (noFn)))))
def pa_impl_Crypt__o_impl_ymix (N : Nat) (G_impl_ymix : ∀ {R : Type} (s : ByteArray) (n : Int) (k : Int → Option R), Option R) (G_impl_yjoin_w : ∀ {R : Type} (b : Bool) (l : List ByteArray) (k : ByteArray → Option R), Option R) (G_impl_PutWord : ∀ {R : Type} (n : Int) (k : ByteArray → Option R), Option R) (G_impl_ybig_w : ∀ {R : Type} (b : Bool) (l : List ByteArray) (k : Bool → Option R), Option R) (G_impl_ylongKey_w : ∀ {R : Type} (b : Bool) (l : List ByteArray) (k : Bool → Option R), Option R) {R : Type} (args : List AV) (H : Hp E) (K : AV → Hp E → Option R) : Option R :=
  match args, H with
  | [(Go.Eng.AV.sc (Go.Eng.SV.str s)), (Go.Eng.AV.sc (Go.Eng.SV.int Go.IntKind.i64 n))], [] => G_impl_ymix s n (fun n6 => K (Go.Eng.AV.sc (Go.Eng.SV.int Go.IntKind.i64 n6)) [])
  | _, _ => none
def pa_impl_Crypt__o_impl_yjoin_w (N : Nat) (G_impl_ymix : ∀ {R : Type} (s : ByteArray) (n : Int) (k : Int → Option R), Option R) (G_impl_yjoin_w : ∀ {R : Type} (b : Bool) (l : List ByteArray) (k : ByteArray → Option R), Option R) (G_impl_PutWord : ∀ {R : Type} (n : Int) (k : ByteArray → Option R), Option R) (G_impl_ybig_w : ∀ {R : Type} (b : Bool) (l : List ByteArray) (k : Bool → Option R), Option R) (G_impl_ylongKey_w : ∀ {R : Type} (b : Bool) (l : List ByteArray) (k : Bool → Option R), Option R) {R : Type} (args : List AV) (H : Hp E) (K : AV → Hp E → Option R) : Option R :=
  match args, H with
  | [(Go.Eng.AV.sc (Go.Eng.SV.slc 0 Option.none b))], [(Option.some (Go.Eng.HE.mk Bool.false (Go.Eng.HB.rows (Go.Sa.B.str l))))] => G_impl_yjoin_w b l (fun s => K (Go.Eng.AV.sc (Go.Eng.SV.str s)) [(Option.some (Go.Eng.HE.mk Bool.false (Go.Eng.HB.rows (Go.Sa.B.str l))))])
  | _, _ => none
def pa_impl_Crypt__o_impl_PutWord (N : Nat) (G_impl_ymix : ∀ {R : Type} (s : ByteArray) (n : Int) (k : Int → Option R), Option R) (G_impl_yjoin_w : ∀ {R : Type} (b : Bool) (l : List ByteArray) (k : ByteArray → Option R), Option R) (G_impl_PutWord : ∀ {R : Type} (n : Int) (k : ByteArray → Option R), Option R) (G_impl_ybig_w : ∀ {R : Type} (b : Bool) (l : List ByteArray) (k : Bool → Option R), Option R) (G_impl_ylongKey_w : ∀ {R : Type} (b : Bool) (l : List ByteArray) (k : Bool → Option R), Option R) {R : Type} (args : List AV) (H : Hp E) (K : AV → Hp E → Option R) : Option R :=
  match args, H with
  | [(Go.Eng.AV.sc (Go.Eng.SV.int Go.IntKind.i64 n))], [] => G_impl_PutWord n (fun s => K (Go.Eng.AV.sc (Go.Eng.SV.str s)) [])
  | _, _ => none
def pa_impl_Crypt__o_impl_ybig_w (N : Nat) (G_impl_ymix : ∀ {R : Type} (s : ByteArray) (n : Int) (k : Int → Option R), Option R) (G_impl_yjoin_w : ∀ {R : Type} (b : Bool) (l : List ByteArray) (k : ByteArray → Option R), Option R) (G_impl_PutWord : ∀ {R : Type} (n : Int) (k : ByteArray → Option R), Option R) (G_impl_ybig_w : ∀ {R : Type} (b : Bool) (l : List ByteArray) (k : Bool → Option R), Option R) (G_impl_ylongKey_w : ∀ {R : Type} (b : Bool) (l : List ByteArray) (k : Bool → Option R), Option R) {R : Type} (args : List AV) (H : Hp E) (K : AV → Hp E → Option R) : Option R :=
  match args, H with
  | [(Go.Eng.AV.sc (Go.Eng.SV.slc 0 Option.none b))], [(Option.some (Go.Eng.HE.mk Bool.false (Go.Eng.HB.rows (Go.Sa.B.str l))))] => G_impl_ybig_w b l (fun b2 => K (Go.Eng.AV.sc (Go.Eng.SV.bool b2)) [(Option.some (Go.Eng.HE.mk Bool.false (Go.Eng.HB.rows (Go.Sa.B.str l))))])
  | _, _ => none
def pa_impl_Crypt__o_impl_ylongKey_w (N : Nat) (G_impl_ymix : ∀ {R : Type} (s : ByteArray) (n : Int) (k : Int → Option R), Option R) (G_impl_yjoin_w : ∀ {R : Type} (b : Bool) (l : List ByteArray) (k : ByteArray → Option R), Option R) (G_impl_PutWord : ∀ {R : Type} (n : Int) (k : ByteArray → Option R), Option R) (G_impl_ybig_w : ∀ {R : Type} (b : Bool) (l : List ByteArray) (k : Bool → Option R), Option R) (G_impl_ylongKey_w : ∀ {R : Type} (b : Bool) (l : List ByteArray) (k : Bool → Option R), Option R) {R : Type} (args : List AV) (H : Hp E) (K : AV → Hp E → Option R) : Option R :=
  match args, H with
  | [(Go.Eng.AV.sc (Go.Eng.SV.slc 0 Option.none b))], [(Option.some (Go.Eng.HE.mk Bool.false (Go.Eng.HB.rows (Go.Sa.B.str l))))] => G_impl_ylongKey_w b l (fun b2 => K (Go.Eng.AV.sc (Go.Eng.SV.bool b2)) [(Option.some (Go.Eng.HE.mk Bool.false (Go.Eng.HB.rows (Go.Sa.B.str l))))])
  | _, _ => none
noncomputable def OA_impl_Crypt (N : Nat) (G_impl_ymix : ∀ {R : Type} (s : ByteArray) (n : Int) (k : Int → Option R), Option R) (G_impl_yjoin_w : ∀ {R : Type} (b : Bool) (l : List ByteArray) (k : ByteArray → Option R), Option R) (G_impl_PutWord : ∀ {R : Type} (n : Int) (k : ByteArray → Option R), Option R) (G_impl_ybig_w : ∀ {R : Type} (b : Bool) (l : List ByteArray) (k : Bool → Option R), Option R) (G_impl_ylongKey_w : ∀ {R : Type} (b : Bool) (l : List ByteArray) (k : Bool → Option R), Option R) : Orc E := addFn 67 (pa_impl_Crypt__o_impl_ymix N G_impl_ymix G_impl_yjoin_w G_impl_PutWord G_impl_ybig_w G_impl_ylongKey_w) (addFn 68 (pa_impl_Crypt__o_impl_yjoin_w N G_impl_ymix G_impl_yjoin_w G_impl_PutWord G_impl_ybig_w G_impl_ylongKey_w) (addFn 69 (pa_impl_Crypt__o_impl_PutWord N G_impl_ymix G_impl_yjoin_w G_impl_PutWord G_impl_ybig_w G_impl_ylongKey_w) (addFn 92 (pa_impl_Crypt__o_impl_ybig_w N G_impl_ymix G_impl_yjoin_w G_impl_PutWord G_impl_ybig_w G_impl_ylongKey_w) (addFn 57 (pa_impl_Crypt__o_impl_ylongKey_w N G_impl_ymix G_impl_yjoin_w G_impl_PutWord G_impl_ybig_w G_impl_ylongKey_w) (noFn)))))
theorem O_impl_Crypt_ok (N : Nat) : OrcOk (O_impl_Crypt N) := addFn_ok (o_impl_ymix_ok N) (addFn_ok (o_impl_yjoin_w_ok N) (addFn_ok (o_impl_PutWord_ok N) (addFn_ok (o_impl_ybig_w_ok N) (addFn_ok (o_impl_ylongKey_w_ok N) (noFn_ok)))))
def s_impl_Crypt_2 (N : Nat) {R : Type} (s6 : ByteArray) (n5 : Int) (b3 : Bool) (n6 : Int) (n9 : Int) (n10 : Int) (n7 : Int) (n8 : Int) (l1 : List Int) (ag : Int → Int → (List Int) → Option R)  (kN : (List Int) → Option R) : Option R :=
  (cond (decide ((n8 < (if ((decide (((((List.length l1) : Nat) : Int) < (Go.IntKind.wrap Go.IntKind.i64 (n6 + (3 : Int)))))) = Bool.true) then (((List.length l1) : Nat) : Int) else (Go.IntKind.wrap Go.IntKind.i64 (n6 + (3 : Int)))))))
  (cond ((decide (((0 : Int) ≤ n8))) && (decide ((n8 < (((List.length l1) : Nat) : Int)))))
    (elemK l1 (Int.toNat n8) fun x =>
      (cond ((decide (((0 : Int) ≤ n8))) && (decide ((n8 < (((List.length l1) : Nat) : Int)))))
      (elemK l1 (Int.toNat n8) fun x1 =>
        (cond (Nat.blt (Int.toNat n8) (List.length l1))
        (ag (Int.fdiv n7 (256 : Int)) (Go.IntKind.wrap Go.IntKind.i64 (n8 + (1 : Int))) (Go.Eng.nset l1 (Int.toNat n8) (Go.IntKind.wrap Go.IntKind.u8 (((BitVec.toNat ((BitVec.ofInt 8 x) ^^^ (BitVec.ofInt 8 (Go.IntKind.wrap Go.IntKind.u8 n7)))) : Nat) : Int))))
        none))
      none))
    none)
  (kN l1))
def ga_s_impl_Crypt_2 (N : Nat) (G_impl_ymix : ∀ {R : Type} (s : ByteArray) (n : Int) (k : Int → Option R), Option R) (G_impl_yjoin_w : ∀ {R : Type} (b : Bool) (l : List ByteArray) (k : ByteArray → Option R), Option R) (G_impl_PutWord : ∀ {R : Type} (n : Int) (k : ByteArray → Option R), Option R) (G_impl_ybig_w : ∀ {R : Type} (b : Bool) (l : List ByteArray) (k : Bool → Option R), Option R) (G_impl_ylongKey_w : ∀ {R : Type} (b : Bool) (l : List ByteArray) (k : Bool → Option R), Option R) {R : Type} (s6 : ByteArray) (n5 : Int) (b3 : Bool) (n6 : Int) (n9 : Int) (n10 : Int) (n7 : Int) (n8 : Int) (l1 : List Int) (ag : Int → Int → (List Int) → Option R)  (kN : (List Int) → Option R) : Option R :=
  (cond (decide ((n8 < (if ((decide (((((List.length l1) : Nat) : Int) < (Go.IntKind.wrap Go.IntKind.i64 (n6 + (3 : Int)))))) = Bool.true) then (((List.length l1) : Nat) : Int) else (Go.IntKind.wrap Go.IntKind.i64 (n6 + (3 : Int)))))))
  (cond ((decide (((0 : Int) ≤ n8))) && (decide ((n8 < (((List.length l1) : Nat) : Int)))))
    (elemK l1 (Int.toNat n8) fun x =>
      (cond ((decide (((0 : Int) ≤ n8))) && (decide ((n8 < (((List.length l1) : Nat) : Int)))))
      (elemK l1 (Int.toNat n8) fun x1 =>
        (cond (Nat.blt (Int.toNat n8) (List.length l1))
        (ag (Int.fdiv n7 (256 : Int)) (Go.IntKind.wrap Go.IntKind.i64 (n8 + (1 : Int))) (Go.Eng.nset l1 (Int.toNat n8) (Go.IntKind.wrap Go.IntKind.u8 (((BitVec.toNat ((BitVec.ofInt 8 x) ^^^ (BitVec.ofInt 8 (Go.IntKind.wrap Go.IntKind.u8 n7)))) : Nat) : Int))))
        none))
      none))
    none)
  (kN l1))
def l_impl_Crypt_2 (N : Nat) {R : Type} (s6 : ByteArray) (n5 : Int) (b3 : Bool) (n6 : Int) (n9 : Int) (n10 : Int) (kN : (List Int) → Option R) : Nat → Int → Int → (List Int) → Option R
  | 0, _, _, _ => none
  | f + 1, n7, n8, l1 => s_impl_Crypt_2 N s6 n5 b3 n6 n9 n10 n7 n8 l1 (fun n7 n8 l1 => l_impl_Crypt_2 N s6 n5 b3 n6 n9 n10 kN f n7 n8 l1)  kN
def c_impl_Crypt_2 (N : Nat) {R : Type} (s6 : ByteArray) (n5 : Int) (b3 : Bool) (n6 : Int) (n9 : Int) (n10 : Int) (n7 : Int) (n8 : Int) (l1 : List Int) (kN : (List Int) → Option R) : Option R := l_impl_Crypt_2 N s6 n5 b3 n6 n9 n10 kN N n7 n8 l1
theorem ea_se_impl_Crypt_2 (N : Nat) (G_impl_ymix : ∀ {R : Type} (s : ByteArray) (n : Int) (k : Int → Option R), Option R) (G_impl_yjoin_w : ∀ {R : Type} (b : Bool) (l : List ByteArray) (k : ByteArray → Option R), Option R) (G_impl_PutWord : ∀ {R : Type} (n : Int) (k : ByteArray → Option R), Option R) (G_impl_ybig_w : ∀ {R : Type} (b : Bool) (l : List ByteArray) (k : Bool → Option R), Option R) (G_impl_ylongKey_w : ∀ {R : Type} (b : Bool) (l : List ByteArray) (k : Bool → Option R), Option R) {R : Type} (s6 : ByteArray) (n5 : Int) (b3 : Bool) (n6 : Int) (n9 : Int) (n10 : Int) (n7 : Int) (n8 : Int) (l1 : List Int) (AG : List (Option AV) → Hp E → Option R) (KL : Ex → List (Option AV) → Hp E → Option R) :
    iterStep (E := E) (OA_impl_Crypt N G_impl_ymix G_impl_yjoin_w G_impl_PutWord G_impl_ybig_w G_impl_ylongKey_w) (fun {R} => LI (noIt) 0 61 sl_impl_Crypt (R := R)) J_impl_Crypt 0 61 2 [0, 1, 7, 8, 9, 10, 22, 23] [0, 1, 7, 22, 23] (body Go.Proofs.Try.f40 2) AG KL [(Option.some (Go.Eng.AV.sc (Go.Eng.SV.str s6))), (Option.some (Go.Eng.AV.sc (Go.Eng.SV.int Go.IntKind.i64 n5))), (Option.some (Go.Eng.AV.sc (Go.Eng.SV.slc 0 Option.none b3))), (Option.some (Go.Eng.AV.sc (Go.Eng.SV.int Go.IntKind.i64 n6))), (Option.some (Go.Eng.AV.sc (Go.Eng.SV.int Go.IntKind.i64 n7))), (Option.some (Go.Eng.AV.sc (Go.Eng.SV.int Go.IntKind.i64 n8))), (Option.some (Go.Eng.AV.sc (Go.Eng.SV.int Go.IntKind.i64 n9))), (Option.some (Go.Eng.AV.sc (Go.Eng.SV.int Go.IntKind.i64 n10)))] [(Option.some (Go.Eng.HE.mk Bool.false (Go.Eng.HB.rows (Go.Sa.B.u8 l1))))] =
      ga_s_impl_Crypt_2 N G_impl_ymix G_impl_yjoin_w G_impl_PutWord G_impl_ybig_w G_impl_ylongKey_w s6 n5 b3 n6 n9 n10 n7 n8 l1 (fun n7 n8 l1 => AG [(Option.some (Go.Eng.AV.sc (Go.Eng.SV.str s6))), (Option.some (Go.Eng.AV.sc (Go.Eng.SV.int Go.IntKind.i64 n5))), (Option.some (Go.Eng.AV.sc (Go.Eng.SV.slc 0 Option.none b3))), (Option.some (Go.Eng.AV.sc (Go.Eng.SV.int Go.IntKind.i64 n6))), (Option.some (Go.Eng.AV.sc (Go.Eng.SV.int Go.IntKind.i64 n7))), (Option.some (Go.Eng.AV.sc (Go.Eng.SV.int Go.IntKind.i64 n8))), (Option.some (Go.Eng.AV.sc (Go.Eng.SV.int Go.IntKind.i64 n9))), (Option.some (Go.Eng.AV.sc (Go.Eng.SV.int Go.IntKind.i64 n10)))] [(Option.some (Go.Eng.HE.mk Bool.false (Go.Eng.HB.rows (Go.Sa.B.u8 l1))))])  (fun l4 => KL Go.Eng.Ex.normal [(Option.some (Go.Eng.AV.sc (Go.Eng.SV.str s6))), (Option.some (Go.Eng.AV.sc (Go.Eng.SV.int Go.IntKind.i64 n5))), (Option.some (Go.Eng.AV.sc (Go.Eng.SV.slc 0 Option.none b3))), (Option.some (Go.Eng.AV.sc (Go.Eng.SV.int Go.IntKind.i64 n9))), (Option.some (Go.Eng.AV.sc (Go.Eng.SV.int Go.IntKind.i64 n10)))] [(Option.some (Go.Eng.HE.mk Bool.false (Go.Eng.HB.rows (Go.Sa.B.u8 l4))))]) := by kernel_rfl
theorem se_impl_Crypt_2 (N : Nat) {R : Type} (s6 : ByteArray) (n5 : Int) (b3 : Bool) (n6 : Int) (n9 : Int) (n10 : Int) (n7 : Int) (n8 : Int) (l1 : List Int) (AG : List (Option AV) → Hp E → Option R) (KL : Ex → List (Option AV) → Hp E → Option R) :
    iterStep (E := E) (O_impl_Crypt N) (fun {R} => LI (noIt) 0 61 sl_impl_Crypt (R := R)) J_impl_Crypt 0 61 2 [0, 1, 7, 8, 9, 10, 22, 23] [0, 1, 7, 22, 23] (body Go.Proofs.Try.f40 2) AG KL [(Option.some (Go.Eng.AV.sc (Go.Eng.SV.str s6))), (Option.some (Go.Eng.AV.sc (Go.Eng.SV.int Go.IntKind.i64 n5))), (Option.some (Go.Eng.AV.sc (Go.Eng.SV.slc 0 Option.none b3))), (Option.some (Go.Eng.AV.sc (Go.Eng.SV.int Go.IntKind.i64 n6))), (Option.some (Go.Eng.AV.sc (Go.Eng.SV.int Go.IntKind.i64 n7))), (Option.some (Go.Eng.AV.sc (Go.Eng.SV.int Go.IntKind.i64 n8))), (Option.some (Go.Eng.AV.sc (Go.Eng.SV.int Go.IntKind.i64 n9))), (Option.some (Go.Eng.AV.sc (Go.Eng.SV.int Go.IntKind.i64 n10)))] [(Option.some (Go.Eng.HE.mk Bool.false (Go.Eng.HB.rows (Go.Sa.B.u8 l1))))] =
      s_impl_Crypt_2 N s6 n5 b3 n6 n9 n10 n7 n8 l1 (fun n7 n8 l1 => AG [(Option.some (Go.Eng.AV.sc (Go.Eng.SV.str s6))), (Option.some (Go.Eng.AV.sc (Go.Eng.SV.int Go.IntKind.i64 n5))), (Option.some (Go.Eng.AV.sc (Go.Eng.SV.slc 0 Option.none b3))), (Option.some (Go.Eng.AV.sc (Go.Eng.SV.int Go.IntKind.i64 n6))), (Option.some (Go.Eng.AV.sc (Go.Eng.SV.int Go.IntKind.i64 n7))), (Option.some (Go.Eng.AV.sc (Go.Eng.SV.int Go.IntKind.i64 n8))), (Option.some (Go.Eng.AV.sc (Go.Eng.SV.int Go.IntKind.i64 n9))), (Option.some (Go.Eng.AV.sc (Go.Eng.SV.int Go.IntKind.i64 n10)))] [(Option.some (Go.Eng.HE.mk Bool.false (Go.Eng.HB.rows (Go.Sa.B.u8 l1))))])  (fun l4 => KL Go.Eng.Ex.normal [(Option.some (Go.Eng.AV.sc (Go.Eng.SV.str s6))), (Option.some (Go.Eng.AV.sc (Go.Eng.SV.int Go.IntKind.i64 n5))), (Option.some (Go.Eng.AV.sc (Go.Eng.SV.slc 0 Option.none b3))), (Option.some (Go.Eng.AV.sc (Go.Eng.SV.int Go.IntKind.i64 n9))), (Option.some (Go.Eng.AV.sc (Go.Eng.SV.int Go.IntKind.i64 n10)))] [(Option.some (Go.Eng.HE.mk Bool.false (Go.Eng.HB.rows (Go.Sa.B.u8 l4))))]) := castPr (by kernel_rfl) (ea_se_impl_Crypt_2 N (g_impl_ymix N) (g_impl_yjoin_w N) (g_impl_PutWord N) (g_impl_ybig_w N) (g_impl_ylongKey_w N) s6 n5 b3 n6 n9 n10 n7 n8 l1 AG KL)
theorem le_impl_Crypt_2 (N : Nat) {R : Type} (s6 : ByteArray) (n5 : Int) (b3 : Bool) (n6 : Int) (n9 : Int) (n10 : Int) (KL : Ex → List (Option AV) → Hp E → Option R) : ∀ (f : Nat), ∀ (n7 : Int) (n8 : Int) (l1 : List Int), iterK (E := E) (O_impl_Crypt N) (fun {R} => LI (noIt) 0 61 sl_impl_Crypt (R := R)) J_impl_Crypt 0 61 2 [0, 1, 7, 8, 9, 10, 22, 23] [0, 1, 7, 22, 23] (body Go.Proofs.Try.f40 2) f [(Option.some (Go.Eng.AV.sc (Go.Eng.SV.str s6))), (Option.some (Go.Eng.AV.sc (Go.Eng.SV.int Go.IntKind.i64 n5))), (Option.some (Go.Eng.AV.sc (Go.Eng.SV.slc 0 Option.none b3))), (Option.some (Go.Eng.AV.sc (Go.Eng.SV.int Go.IntKind.i64 n6))), (Option.some (Go.Eng.AV.sc (Go.Eng.SV.int Go.IntKind.i64 n7))), (Option.some (Go.Eng.AV.sc (Go.Eng.SV.int Go.IntKind.i64 n8))), (Option.some (Go.Eng.AV.sc (Go.Eng.SV.int Go.IntKind.i64 n9))), (Option.some (Go.Eng.AV.sc (Go.Eng.SV.int Go.IntKind.i64 n10)))] [(Option.some (Go.Eng.HE.mk Bool.false (Go.Eng.HB.rows (Go.Sa.B.u8 l1))))] KL = l_impl_Crypt_2 N s6 n5 b3 n6 n9 n10 (fun l4 => KL Go.Eng.Ex.normal [(Option.some (Go.Eng.AV.sc (Go.Eng.SV.str s6))), (Option.some (Go.Eng.AV.sc (Go.Eng.SV.int Go.IntKind.i64 n5))), (Option.some (Go.Eng.AV.sc (Go.Eng.SV.slc 0 Option.none b3))), (Option.some (Go.Eng.AV.sc (Go.Eng.SV.int Go.IntKind.i64 n9))), (Option.some (Go.Eng.AV.sc (Go.Eng.SV.int Go.IntKind.i64 n10)))] [(Option.some (Go.Eng.HE.mk Bool.false (Go.Eng.HB.rows (Go.Sa.B.u8 l4))))]) f n7 n8 l1 := by
  intro f
  induction f with
  | zero => intros; rfl
  | succ f ih =>
    intro n7 n8 l1
    rw [iterK_succ, se_impl_Crypt_2]
    exact (congrArg (fun z0 => s_impl_Crypt_2 N s6 n5 b3 n6 n9 n10 n7 n8 l1 z0 (fun l4 => KL Go.Eng.Ex.normal [(Option.some (Go.Eng.AV.sc (Go.Eng.SV.str s6))), (Option.some (Go.Eng.AV.sc (Go.Eng.SV.int Go.IntKind.i64 n5))), (Option.some (Go.Eng.AV.sc (Go.Eng.SV.slc 0 Option.none b3))), (Option.some (Go.Eng.AV.sc (Go.Eng.SV.int Go.IntKind.i64 n9))), (Option.some (Go.Eng.AV.sc (Go.Eng.SV.int Go.IntKind.i64 n10)))] [(Option.some (Go.Eng.HE.mk Bool.false (Go.Eng.HB.rows (Go.Sa.B.u8 l4))))])) (funext fun n7 => funext fun n8 => funext fun l1 => ih n7 n8 l1))
def i_impl_Crypt_2 (N : Nat) {R : Type} (vs : List (Option AV)) (H : Hp E) (KL : Ex → List (Option AV) → Hp E → Option R) : Option R :=
  match vs, H with
  | [(Option.some (Go.Eng.AV.sc (Go.Eng.SV.str s6))), (Option.some (Go.Eng.AV.sc (Go.Eng.SV.int Go.IntKind.i64 n5))), (Option.some (Go.Eng.AV.sc (Go.Eng.SV.slc 0 Option.none b3))), (Option.some (Go.Eng.AV.sc (Go.Eng.SV.int Go.IntKind.i64 n6))), (Option.some (Go.Eng.AV.sc (Go.Eng.SV.int Go.IntKind.i64 n7))), (Option.some (Go.Eng.AV.sc (Go.Eng.SV.int Go.IntKind.i64 n8))), (Option.some (Go.Eng.AV.sc (Go.Eng.SV.int Go.IntKind.i64 n9))), (Option.some (Go.Eng.AV.sc (Go.Eng.SV.int Go.IntKind.i64 n10)))], [(Option.some (Go.Eng.HE.mk Bool.false (Go.Eng.HB.rows (Go.Sa.B.u8 l1))))] => c_impl_Crypt_2 N s6 n5 b3 n6 n9 n10 n7 n8 l1 (fun l5 => KL Go.Eng.Ex.normal [(Option.some (Go.Eng.AV.sc (Go.Eng.SV.str s6))), (Option.some (Go.Eng.AV.sc (Go.Eng.SV.int Go.IntKind.i64 n5))), (Option.some (Go.Eng.AV.sc (Go.Eng.SV.slc 0 Option.none b3))), (Option.some (Go.Eng.AV.sc (Go.Eng.SV.int Go.IntKind.i64 n9))), (Option.some (Go.Eng.AV.sc (Go.Eng.SV.int Go.IntKind.i64 n10)))] [(Option.some (Go.Eng.HE.mk Bool.false (Go.Eng.HB.rows (Go.Sa.B.u8 l5))))])
  | _, _ => none
noncomputable def IT_impl_Crypt_2 (N : Nat) : Its E := addIt 2 (i_impl_Crypt_2 N) (noIt)
theorem IT_impl_Crypt_2_ok (N : Nat) : ItOk (IT_impl_Crypt_2 N) 0 61 sl_impl_Crypt (lsB Go.Proofs.Try.f40 [2]) :=
  addItB_ok (inner := []) ok (O_impl_Crypt_ok N) (jn_ok _ _ _) (noIt_ok) rfl (by kernel_rfl) rfl fun vs H KL r h => by
    unfold i_impl_Crypt_2 at h
    split at h
    · exact ⟨_, (le_impl_Crypt_2 N _ _ _ _ _ _ KL N _ _ _).trans h⟩
    · cases h
def s_impl_Crypt_0 (N : Nat) {R : Type} (s2 : ByteArray) (n1 : Int) (b2 : Bool) (n2 : Int) (n3 : Int) (l : List Int) (ag : Int → (List Int) → Option R)  (kN : (List Int) → Option R) : Option R :=
  (cond (decide ((n3 < n2)))
  (cond ((Int.tmod n3 (3 : Int)) == (0 : Int))
    (g_impl_PutWord N n1 fun s3 =>
      (g_impl_PutWord N (Go.IntKind.wrap Go.IntKind.i64 (Int.tdiv n3 (3 : Int))) fun s4 =>
      (g_impl_yjoin_w N Bool.false [s2, s3, s4] fun s5 =>
      (g_impl_ymix N s5 (11 : Int) fun n4 =>
      (c_impl_Crypt_2 N s2 n1 b2 n3 n2 n3 n4 n3 l fun l2 =>
      (ag (Go.IntKind.wrap Go.IntKind.i64 (n3 + (1 : Int))) l2))))))
    (ag (Go.IntKind.wrap Go.IntKind.i64 (n3 + (1 : Int))) l))
  (kN l))
def ga_s_impl_Crypt_0 (N : Nat) (G_impl_ymix : ∀ {R : Type} (s : ByteArray) (n : Int) (k : Int → Option R), Option R) (G_impl_yjoin_w : ∀ {R : Type} (b : Bool) (l : List ByteArray) (k : ByteArray → Option R), Option R) (G_impl_PutWord : ∀ {R : Type} (n : Int) (k : ByteArray → Option R), Option R) (G_impl_ybig_w : ∀ {R : Type} (b : Bool) (l : List ByteArray) (k : Bool → Option R), Option R) (G_impl_ylongKey_w : ∀ {R : Type} (b : Bool) (l : List ByteArray) (k : Bool → Option R), Option R) {R : Type} (s2 : ByteArray) (n1 : Int) (b2 : Bool) (n2 : Int) (n3 : Int) (l : List Int) (ag : Int → (List Int) → Option R)  (kN : (List Int) → Option R) : Option R :=
  (cond (decide ((n3 < n2)))
  (cond ((Int.tmod n3 (3 : Int)) == (0 : Int))
    (G_impl_PutWord n1 fun s3 =>
      (G_impl_PutWord (Go.IntKind.wrap Go.IntKind.i64 (Int.tdiv n3 (3 : Int))) fun s4 =>
      (G_impl_yjoin_w Bool.false [s2, s3, s4] fun s5 =>
      (G_impl_ymix s5 (11 : Int) fun n4 =>
      (c_impl_Crypt_2 N s2 n1 b2 n3 n2 n3 n4 n3 l fun l2 =>
      (ag (Go.IntKind.wrap Go.IntKind.i64 (n3 + (1 : Int))) l2))))))
    (ag (Go.IntKind.wrap Go.IntKind.i64 (n3 + (1 : Int))) l))
  (kN l))
def l_impl_Crypt_0 (N : Nat) {R : Type} (s2 : ByteArray) (n1 : Int) (b2 : Bool) (n2 : Int) (kN : (List Int) → Option R) : Nat → Int → (List Int) → Option R
  | 0, _, _ => none
  | f + 1, n3, l => s_impl_Crypt_0 N s2 n1 b2 n2 n3 l (fun n3 l => l_impl_Crypt_0 N s2 n1 b2 n2 kN f n3 l)  kN
def c_impl_Crypt_0 (N : Nat) {R : Type} (s2 : ByteArray) (n1 : Int) (b2 : Bool) (n2 : Int) (n3 : Int) (l : List Int) (kN : (List Int) → Option R) : Option R := l_impl_Crypt_0 N s2 n1 b2 n2 kN N n3 l
theorem ea_se_impl_Crypt_0 (N : Nat) (G_impl_ymix : ∀ {R : Type} (s : ByteArray) (n : Int) (k : Int → Option R), Option R) (G_impl_yjoin_w : ∀ {R : Type} (b : Bool) (l : List ByteArray) (k : ByteArray → Option R), Option R) (G_impl_PutWord : ∀ {R : Type} (n : Int) (k : ByteArray → Option R), Option R) (G_impl_ybig_w : ∀ {R : Type} (b : Bool) (l : List ByteArray) (k : Bool → Option R), Option R) (G_impl_ylongKey_w : ∀ {R : Type} (b : Bool) (l : List ByteArray) (k : Bool → Option R), Option R) {R : Type} (s2 : ByteArray) (n1 : Int) (b2 : Bool) (n2 : Int) (n3 : Int) (l : List Int) (AG : List (Option AV) → Hp E → Option R) (KL : Ex → List (Option AV) → Hp E → Option R) :
    iterStep (E := E) (OA_impl_Crypt N G_impl_ymix G_impl_yjoin_w G_impl_PutWord G_impl_ybig_w G_impl_ylongKey_w) (fun {R} => LI (IT_impl_Crypt_2 N) 0 61 sl_impl_Crypt (R := R)) J_impl_Crypt 0 61 0 [0, 1, 7, 22, 23] [7] (body Go.Proofs.Try.f40 0) AG KL [(Option.some (Go.Eng.AV.sc (Go.Eng.SV.str s2))), (Option.some (Go.Eng.AV.sc (Go.Eng.SV.int Go.IntKind.i64 n1))), (Option.some (Go.Eng.AV.sc (Go.Eng.SV.slc 0 Option.none b2))), (Option.some (Go.Eng.AV.sc (Go.Eng.SV.int Go.IntKind.i64 n2))), (Option.some (Go.Eng.AV.sc (Go.Eng.SV.int Go.IntKind.i64 n3)))] [(Option.some (Go.Eng.HE.mk Bool.false (Go.Eng.HB.rows (Go.Sa.B.u8 l))))] =
      ga_s_impl_Crypt_0 N G_impl_ymix G_impl_yjoin_w G_impl_PutWord G_impl_ybig_w G_impl_ylongKey_w s2 n1 b2 n2 n3 l (fun n3 l => AG [(Option.some (Go.Eng.AV.sc (Go.Eng.SV.str s2))), (Option.some (Go.Eng.AV.sc (Go.Eng.SV.int Go.IntKind.i64 n1))), (Option.some (Go.Eng.AV.sc (Go.Eng.SV.slc 0 Option.none b2))), (Option.some (Go.Eng.AV.sc (Go.Eng.SV.int Go.IntKind.i64 n2))), (Option.some (Go.Eng.AV.sc (Go.Eng.SV.int Go.IntKind.i64 n3)))] [(Option.some (Go.Eng.HE.mk Bool.false (Go.Eng.HB.rows (Go.Sa.B.u8 l))))])  (fun l6 => KL Go.Eng.Ex.normal [(Option.some (Go.Eng.AV.sc (Go.Eng.SV.slc 0 Option.none b2)))] [(Option.some (Go.Eng.HE.mk Bool.false (Go.Eng.HB.rows (Go.Sa.B.u8 l6))))]) := by kernel_rfl
theorem se_impl_Crypt_0 (N : Nat) {R : Type} (s2 : ByteArray) (n1 : Int) (b2 : Bool) (n2 : Int) (n3 : Int) (l : List Int) (AG : List (Option AV) → Hp E → Option R) (KL : Ex → List (Option AV) → Hp E → Option R) :
    iterStep (E := E) (O_impl_Crypt N) (fun {R} => LI (IT_impl_Crypt_2 N) 0 61 sl_impl_Crypt (R := R)) J_impl_Crypt 0 61 0 [0, 1, 7, 22, 23] [7] (body Go.Proofs.Try.f40 0) AG KL [(Option.some (Go.Eng.AV.sc (Go.Eng.SV.str s2))), (Option.some (Go.Eng.AV.sc (Go.Eng.SV.int Go.IntKind.i64 n1))), (Option.some (Go.Eng.AV.sc (Go.Eng.SV.slc 0 Option.none b2))), (Option.some (Go.Eng.AV.sc (Go.Eng.SV.int Go.IntKind.i64 n2))), (Option.some (Go.Eng.AV.sc (Go.Eng.SV.int Go.IntKind.i64 n3)))] [(Option.some (Go.Eng.HE.mk Bool.false (Go.Eng.HB.rows (Go.Sa.B.u8 l))))] =
      s_impl_Crypt_0 N s2 n1 b2 n2 n3 l (fun n3 l => AG [(Option.some (Go.Eng.AV.sc (Go.Eng.SV.str s2))), (Option.some (Go.Eng.AV.sc (Go.Eng.SV.int Go.IntKind.i64 n1))), (Option.some (Go.Eng.AV.sc (Go.Eng.SV.slc 0 Option.none b2))), (Option.some (Go.Eng.AV.sc (Go.Eng.SV.int Go.IntKind.i64 n2))), (Option.some (Go.Eng.AV.sc (Go.Eng.SV.int Go.IntKind.i64 n3)))] [(Option.some (Go.Eng.HE.mk Bool.false (Go.Eng.HB.rows (Go.Sa.B.u8 l))))])  (fun l6 => KL Go.Eng.Ex.normal [(Option.some (Go.Eng.AV.sc (Go.Eng.SV.slc 0 Option.none b2)))] [(Option.some (Go.Eng.HE.mk Bool.false (Go.Eng.HB.rows (Go.Sa.B.u8 l6))))]) := castPr (by kernel_rfl) (ea_se_impl_Crypt_0 N (g_impl_ymix N) (g_impl_yjoin_w N) (g_impl_PutWord N) (g_impl_ybig_w N) (g_impl_ylongKey_w N) s2 n1 b2 n2 n3 l AG KL)
theorem le_impl_Crypt_0 (N : Nat) {R : Type} (s2 : ByteArray) (n1 : Int) (b2 : Bool) (n2 : Int) (KL : Ex → List (Option AV) → Hp E → Option R) : ∀ (f : Nat), ∀ (n3 : Int) (l : List Int), iterK (E := E) (O_impl_Crypt N) (fun {R} => LI (IT_impl_Crypt_2 N) 0 61 sl_impl_Crypt (R := R)) J_impl_Crypt 0 61 0 [0, 1, 7, 22, 23] [7] (body Go.Proofs.Try.f40 0) f [(Option.some (Go.Eng.AV.sc (Go.Eng.SV.str s2))), (Option.some (Go.Eng.AV.sc (Go.Eng.SV.int Go.IntKind.i64 n1))), (Option.some (Go.Eng.AV.sc (Go.Eng.SV.slc 0 Option.none b2))), (Option.some (Go.Eng.AV.sc (Go.Eng.SV.int Go.IntKind.i64 n2))), (Option.some (Go.Eng.AV.sc (Go.Eng.SV.int Go.IntKind.i64 n3)))] [(Option.some (Go.Eng.HE.mk Bool.false (Go.Eng.HB.rows (Go.Sa.B.u8 l))))] KL = l_impl_Crypt_0 N s2 n1 b2 n2 (fun l6 => KL Go.Eng.Ex.normal [(Option.some (Go.Eng.AV.sc (Go.Eng.SV.slc 0 Option.none b2)))] [(Option.some (Go.Eng.HE.mk Bool.false (Go.Eng.HB.rows (Go.Sa.B.u8 l6))))]) f n3 l := by
  intro f
  induction f with
  | zero => intros; rfl
  | succ f ih =>
    intro n3 l
    rw [iterK_succ, se_impl_Crypt_0]
    exact (congrArg (fun z0 => s_impl_Crypt_0 N s2 n1 b2 n2 n3 l z0 (fun l6 => KL Go.Eng.Ex.normal [(Option.some (Go.Eng.AV.sc (Go.Eng.SV.slc 0 Option.none b2)))] [(Option.some (Go.Eng.HE.mk Bool.false (Go.Eng.HB.rows (Go.Sa.B.u8 l6))))])) (funext fun n3 => funext fun l => ih n3 l))
def i_impl_Crypt_0 (N : Nat) {R : Type} (vs : List (Option AV)) (H : Hp E) (KL : Ex → List (Option AV) → Hp E → Option R) : Option R :=
  match vs, H with
  | [(Option.some (Go.Eng.AV.sc (Go.Eng.SV.str s2))), (Option.some (Go.Eng.AV.sc (Go.Eng.SV.int Go.IntKind.i64 n1))), (Option.some (Go.Eng.AV.sc (Go.Eng.SV.slc 0 Option.none b2))), (Option.some (Go.Eng.AV.sc (Go.Eng.SV.int Go.IntKind.i64 n2))), (Option.some (Go.Eng.AV.sc (Go.Eng.SV.int Go.IntKind.i64 n3)))], [(Option.some (Go.Eng.HE.mk Bool.false (Go.Eng.HB.rows (Go.Sa.B.u8 l))))] => c_impl_Crypt_0 N s2 n1 b2 n2 n3 l (fun l7 => KL Go.Eng.Ex.normal [(Option.some (Go.Eng.AV.sc (Go.Eng.SV.slc 0 Option.none b2)))] [(Option.some (Go.Eng.HE.mk Bool.false (Go.Eng.HB.rows (Go.Sa.B.u8 l7))))])
  | _, _ => none
noncomputable def IT_impl_Crypt_0 (N : Nat) : Its E := addIt 0 (i_impl_Crypt_0 N) (IT_impl_Crypt_2 N)
theorem IT_impl_Crypt_0_ok (N : Nat) : ItOk (IT_impl_Crypt_0 N) 0 61 sl_impl_Crypt (lsB Go.Proofs.Try.f40 [0, 2]) :=
  addItB_ok (inner := [2]) ok (O_impl_Crypt_ok N) (jn_ok _ _ _) (IT_impl_Crypt_2_ok N) rfl (by kernel_rfl) rfl fun vs H KL r h => by
    unfold i_impl_Crypt_0 at h
    split at h
    · exact ⟨_, (le_impl_Crypt_0 N _ _ _ _ KL N _ _).trans h⟩
    · cases h
def g_impl_Crypt (N : Nat) {R : Type} (s : ByteArray) (n : Int) (s1 : ByteArray) (k : ByteArray → Option R) : Option R :=
  (oK (g_impl_ylongKey_w N Bool.false [s] fun b =>
    (cond b
    (some Bool.true)
    (g_impl_ybig_w N Bool.false [s1] fun b1 =>
      (some b1)))) fun j =>
  (cond j
  (k (ByteArray.mk (List.toArray [])))
  (c_impl_Crypt_0 N s n Bool.false (((List.length (Go.Eng.ofBytes s1)) : Nat) : Int) (0 : Int) (Go.Eng.ofBytes s1) fun l3 =>
    (cond (Nat.ble (0 + (List.length l3)) (List.length l3))
    (k (Go.Eng.toBytes (Go.Eng.seg l3 0 (List.length l3))))
    none))))
def ga_g_impl_Crypt (N : Nat) (G_impl_ymix : ∀ {R : Type} (s : ByteArray) (n : Int) (k : Int → Option R), Option R) (G_impl_yjoin_w : ∀ {R : Type} (b : Bool) (l : List ByteArray) (k : ByteArray → Option R), Option R) (G_impl_PutWord : ∀ {R : Type} (n : Int) (k : ByteArray → Option R), Option R) (G_impl_ybig_w : ∀ {R : Type} (b : Bool) (l : List ByteArray) (k : Bool → Option R), Option R) (G_impl_ylongKey_w : ∀ {R : Type} (b : Bool) (l : List ByteArray) (k : Bool → Option R), Option R) {R : Type} (s : ByteArray) (n : Int) (s1 : ByteArray) (k : ByteArray → Option R) : Option R :=
  (oK (G_impl_ylongKey_w Bool.false [s] fun b =>
    (cond b
    (some Bool.true)
    (G_impl_ybig_w Bool.false [s1] fun b1 =>
      (some b1)))) fun j =>
  (cond j
  (k (ByteArray.mk (List.toArray [])))
  (c_impl_Crypt_0 N s n Bool.false (((List.length (Go.Eng.ofBytes s1)) : Nat) : Int) (0 : Int) (Go.Eng.ofBytes s1) fun l3 =>
    (cond (Nat.ble (0 + (List.length l3)) (List.length l3))
    (k (Go.Eng.toBytes (Go.Eng.seg l3 0 (List.length l3))))
    none))))
theorem ea_e_impl_Crypt (N : Nat) (G_impl_ymix : ∀ {R : Type} (s : ByteArray) (n : Int) (k : Int → Option R), Option R) (G_impl_yjoin_w : ∀ {R : Type} (b : Bool) (l : List ByteArray) (k : ByteArray → Option R), Option R) (G_impl_PutWord : ∀ {R : Type} (n : Int) (k : ByteArray → Option R), Option R) (G_impl_ybig_w : ∀ {R : Type} (b : Bool) (l : List ByteArray) (k : Bool → Option R), Option R) (G_impl_ylongKey_w : ∀ {R : Type} (b : Bool) (l : List ByteArray) (k : Bool → Option R), Option R) {R : Type} (s : ByteArray) (n : Int) (s1 : ByteArray) (K : AV → Hp E → Option R) :
    runFnI (E := E) (OA_impl_Crypt N G_impl_ymix G_impl_yjoin_w G_impl_PutWord G_impl_ybig_w G_impl_ylongKey_w) (IT_impl_Crypt_0 N) sl_impl_Crypt J_impl_Crypt Go.Proofs.Try.f40 [(Go.Eng.AV.sc (Go.Eng.SV.str s)), (Go.Eng.AV.sc (Go.Eng.SV.int Go.IntKind.i64 n)), (Go.Eng.AV.sc (Go.Eng.SV.str s1))] [] K =
      ga_g_impl_Crypt N G_impl_ymix G_impl_yjoin_w G_impl_PutWord G_impl_ybig_w G_impl_ylongKey_w s n s1 (fun s7 => K (Go.Eng.AV.sc (Go.Eng.SV.str s7)) []) := by kernel_rfl
theorem e_impl_Crypt (N : Nat) {R : Type} (s : ByteArray) (n : Int) (s1 : ByteArray) (K : AV → Hp E → Option R) :
    runFnI (E := E) (O_impl_Crypt N) (IT_impl_Crypt_0 N) sl_impl_Crypt J_impl_Crypt Go.Proofs.Try.f40 [(Go.Eng.AV.sc (Go.Eng.SV.str s)), (Go.Eng.AV.sc (Go.Eng.SV.int Go.IntKind.i64 n)), (Go.Eng.AV.sc (Go.Eng.SV.str s1))] [] K =
      g_impl_Crypt N s n s1 (fun s7 => K (Go.Eng.AV.sc (Go.Eng.SV.str s7)) []) := castPr (by kernel_rfl) (ea_e_impl_Crypt N (g_impl_ymix N) (g_impl_yjoin_w N) (g_impl_PutWord N) (g_impl_ybig_w N) (g_impl_ylongKey_w N) s n s1 K)
def o_impl_Crypt (N : Nat) {R : Type} (args : List AV) (H : Hp E) (K : AV → Hp E → Option R) : Option R :=
  match args, H with
  | [(Go.Eng.AV.sc (Go.Eng.SV.str s)), (Go.Eng.AV.sc (Go.Eng.SV.int Go.IntKind.i64 n)), (Go.Eng.AV.sc (Go.Eng.SV.str s1))], [] => g_impl_Crypt N s n s1 (fun s7 => K (Go.Eng.AV.sc (Go.Eng.SV.str s7)) [])
  | _, _ => none
theorem o_impl_Crypt_ok (N : Nat) : FnOk E 40 (o_impl_Crypt N) := by
  intro R args H K r h
  unfold o_impl_Crypt at h
  dsimp only at h
  split at h
  · exact fnB_ok (ids := [0, 2]) (top := [0]) ok (O_impl_Crypt_ok N) (jn_ok _ _ _) Go.Proofs.Try.func40 (by kernel_rfl) (IT := IT_impl_Crypt_0 N) (sl := sl_impl_Crypt) (J := J_impl_Crypt) (K := K) (H := []) (IT_impl_Crypt_0_ok N) (by kernel_rfl) rfl ((e_impl_Crypt N _ _ _ K).trans h)
  · cases h
/-! ### loop.example/g00038/impl.TagOf -/
abbrev sl_impl_TagOf : SlotT := []
abbrev J_impl_TagOf : JT := jn [] [] []
noncomputable def O_impl_TagOf (N : Nat) : Orc E := addFn 69 (o_impl_PutWord N) (addFn 67 (o_impl_ymix N) (addFn 57 (o_impl_ylongKey_w N) (noFn)))
theorem O_impl_TagOf_ok (N : Nat) : OrcOk (O_impl_TagOf N) := addFn_ok (o_impl_PutWord_ok N) (addFn_ok (o_impl_ymix_ok N) (addFn_ok (o_impl_ylongKey_w_ok N) (noFn_ok)))
def g_impl_TagOf (N : Nat) {R : Type} (s : ByteArray) (s1 : ByteArray) (k : ByteArray → Option R) : Option R :=
  (g_impl_ylongKey_w N Bool.false [s, s1] fun b =>
  (cond b
  (k (ByteArray.mk (List.toArray [])))
  (cond (Nat.ble ((ByteArray.size s) + (ByteArray.size s1)) 9223372036854775807)
    (g_impl_ymix N (s ++ s1) (21 : Int) fun n =>
      (g_impl_PutWord N n fun s2 =>
      (cond (Nat.ble ((ByteArray.size s1) + (ByteArray.size s)) 9223372036854775807)
      (g_impl_ymix N (s1 ++ s) (22 : Int) fun n1 =>
        (g_impl_PutWord N n1 fun s3 =>
        (cond (Nat.ble ((ByteArray.size s2) + (ByteArray.size s3)) 9223372036854775807)
        (k (s2 ++ s3))
        none)))
      none)))
    none)))
theorem e_impl_TagOf (N : Nat) {R : Type} (s : ByteArray) (s1 : ByteArray) (K : AV → Hp E → Option R) :
    runFnI (E := E) (O_impl_TagOf N) (noIt) sl_impl_TagOf J_impl_TagOf Go.Proofs.Try.f60 [(Go.Eng.AV.sc (Go.Eng.SV.str s)), (Go.Eng.AV.sc (Go.Eng.SV.str s1))] [] K =
      g_impl_TagOf N s s1 (fun s4 => K (Go.Eng.AV.sc (Go.Eng.SV.str s4)) []) := by kernel_rfl
def o_impl_TagOf (N : Nat) {R : Type} (args : List AV) (H : Hp E) (K : AV → Hp E → Option R) : Option R :=
  match args, H with
  | [(Go.Eng.AV.sc (Go.Eng.SV.str s)), (Go.Eng.AV.sc (Go.Eng.SV.str s1))], [] => g_impl_TagOf N s s1 (fun s4 => K (Go.Eng.AV.sc (Go.Eng.SV.str s4)) [])
  | _, _ => none
theorem o_impl_TagOf_ok (N : Nat) : FnOk E 60 (o_impl_TagOf N) := by
  intro R args H K r h
  unfold o_impl_TagOf at h
  dsimp only at h
  split at h
  · exact fnB_ok (ids := []) (top := []) ok (O_impl_TagOf_ok N) (jn_ok _ _ _) Go.Proofs.Try.func60 (by kernel_rfl) (IT := noIt) (sl := sl_impl_TagOf) (J := J_impl_TagOf) (K := K) (H := []) (noIt_ok) (by kernel_rfl) rfl ((e_impl_TagOf N _ _ K).trans h)
  · cases h
/-! ### loop.example/g00038/impl.Seal -/
abbrev sl_impl_Seal_w : SlotT := []
abbrev J_impl_Seal_w : JT := jn [(1, [(23, .b)])] [] []
noncomputable def O_impl_Seal_w (N : Nat) : Orc E := addFn 60 (o_impl_TagOf N) (addFn 40 (o_impl_Crypt N) (addFn 59 (o_impl_ysealKey_w N) (addFn 58 (o_impl_ysealOk_w N) (addFn 57 (o_impl_ylongKey_w N) (noFn)))))
def pa_impl_Seal_w__o_impl_TagOf (N : Nat) (G_impl_TagOf : ∀ {R : Type} (s : ByteArray) (s1 : ByteArray) (k : ByteArray → Option R), Option R) (G_impl_Crypt : ∀ {R : Type} (s : ByteArray) (n : Int) (s1 : ByteArray) (k : ByteArray → Option R), Option R) (G_impl_ysealKey_w : ∀ {R : Type} (s : ByteArray) (b : Bool) (n : Int) (l : List Int) (k : ByteArray → Option R), Option R) (G_impl_ysealOk_w : ∀ {R : Type} (b : Bool) (n : Int) (l : List Int) (k : Bool → Option R), Option R) (G_impl_ylongKey_w : ∀ {R : Type} (b : Bool) (l : List ByteArray) (k : Bool → Option R), Option R) {R : Type} (args : List AV) (H : Hp E) (K : AV → Hp E → Option R) : Option R :=
  match args, H with
  | [(Go.Eng.AV.sc (Go.Eng.SV.str s)), (Go.Eng.AV.sc (Go.Eng.SV.str s1))], [] => G_impl_TagOf s s1 (fun s4 => K (Go.Eng.AV.sc (Go.Eng.SV.str s4)) [])
  | _, _ => none
def pa_impl_Seal_w__o_impl_Crypt (N : Nat) (G_impl_TagOf : ∀ {R : Type} (s : ByteArray) (s1 : ByteArray) (k : ByteArray → Option R), Option R) (G_impl_Crypt : ∀ {R : Type} (s : ByteArray) (n : Int) (s1 : ByteArray) (k : ByteArray → Option R), Option R) (G_impl_ysealKey_w : ∀ {R : Type} (s : ByteArray) (b : Bool) (n : Int) (l : List Int) (k : ByteArray → Option R), Option R) (G_impl_ysealOk_w : ∀ {R : Type} (b : Bool) (n : Int) (l : List Int) (k : Bool → Option R), Option R) (G_impl_ylongKey_w : ∀ {R : Type} (b : Bool) (l : List ByteArray) (k : Bool → Option R), Option R) {R : Type} (args : List AV) (H : Hp E) (K : AV → Hp E → Option R) : Option R :=
  match args, H with
  | [(Go.Eng.AV.sc (Go.Eng.SV.str s)), (Go.Eng.AV.sc (Go.Eng.SV.int Go.IntKind.i64 n)), (Go.Eng.AV.sc (Go.Eng.SV.str s1))], [] => G_impl_Crypt s n s1 (fun s7 => K (Go.Eng.AV.sc (Go.Eng.SV.str s7)) [])
  | _, _ => none
def pa_impl_Seal_w__o_impl_ysealKey_w (N : Nat) (G_impl_TagOf : ∀ {R : Type} (s : ByteArray) (s1 : ByteArray) (k : ByteArray → Option R), Option R) (G_impl_Crypt : ∀ {R : Type} (s : ByteArray) (n : Int) (s1 : ByteArray) (k : ByteArray → Option R), Option R) (G_impl_ysealKey_w : ∀ {R : Type} (s : ByteArray) (b : Bool) (n : Int) (l : List Int) (k : ByteArray → Option R), Option R) (G_impl_ysealOk_w : ∀ {R : Type} (b : Bool) (n : Int) (l : List Int) (k : Bool → Option R), Option R) (G_impl_ylongKey_w : ∀ {R : Type} (b : Bool) (l : List ByteArray) (k : Bool → Option R), Option R) {R : Type} (args : List AV) (H : Hp E) (K : AV → Hp E → Option R) : Option R :=
  match args, H with
  | [(Go.Eng.AV.sc (Go.Eng.SV.str s)), (Go.Eng.AV.sc (Go.Eng.SV.slc 0 Option.none b)), (Go.Eng.AV.sc (Go.Eng.SV.int Go.IntKind.i64 n))], [(Option.some (Go.Eng.HE.mk Bool.false (Go.Eng.HB.rows (Go.Sa.B.i64 l))))] => G_impl_ysealKey_w s b n l (fun s6 => K (Go.Eng.AV.sc (Go.Eng.SV.str s6)) [(Option.some (Go.Eng.HE.mk Bool.false (Go.Eng.HB.rows (Go.Sa.B.i64 l))))])
  | _, _ => none
def pa_impl_Seal_w__o_impl_ysealOk_w (N : Nat) (G_impl_TagOf : ∀ {R : Type} (s : ByteArray) (s1 : ByteArray) (k : ByteArray → Option R), Option R) (G_impl_Crypt : ∀ {R : Type} (s : ByteArray) (n : Int) (s1 : ByteArray) (k : ByteArray → Option R), Option R) (G_impl_ysealKey_w : ∀ {R : Type} (s : ByteArray) (b : Bool) (n : Int) (l : List Int) (k : ByteArray → Option R), Option R) (G_impl_ysealOk_w : ∀ {R : Type} (b : Bool) (n : Int) (l : List Int) (k : Bool → Option R), Option R) (G_impl_ylongKey_w : ∀ {R : Type} (b : Bool) (l : List ByteArray) (k : Bool → Option R), Option R) {R : Type} (args : List AV) (H : Hp E) (K : AV → Hp E → Option R) : Option R :=
  match args, H with
  | [(Go.Eng.AV.sc (Go.Eng.SV.slc 0 Option.none b)), (Go.Eng.AV.sc (Go.Eng.SV.int Go.IntKind.i64 n))], [(Option.some (Go.Eng.HE.mk Bool.false (Go.Eng.HB.rows (Go.Sa.B.i64 l))))] => G_impl_ysealOk_w b n l (fun b3 => K (Go.Eng.AV.sc (Go.Eng.SV.bool b3)) [(Option.some (Go.Eng.HE.mk Bool.false (Go.Eng.HB.rows (Go.Sa.B.i64 l))))])
  | _, _ => none
def pa_impl_Seal_w__o_impl_ylongKey_w (N : Nat) (G_impl_TagOf : ∀ {R : Type} (s : ByteArray) (s1 : ByteArray) (k : ByteArray → Option R), Option R) (G_impl_Crypt : ∀ {R : Type} (s : ByteArray) (n : Int) (s1 : ByteArray) (k : ByteArray → Option R), Option R) (G_impl_ysealKey_w : ∀ {R : Type} (s : ByteArray) (b : Bool) (n : Int) (l : List Int) (k : ByteArray → Option R), Option R) (G_impl_ysealOk_w : ∀ {R : Type} (b : Bool) (n : Int) (l : List Int) (k : Bool → Option R), Option R) (G_impl_ylongKey_w : ∀ {R : Type} (b : Bool) (l : List ByteArray) (k : Bool → Option R), Option R) {R : Type} (args : List AV) (H : Hp E) (K : AV → Hp E → Option R) : Option R :=
  match args, H with
  | [(Go.Eng.AV.sc (Go.Eng.SV.slc 0 Option.none b))], [(Option.some (Go.Eng.HE.mk Bool.false (Go.Eng.HB.rows (Go.Sa.B.str l))))] => G_impl_ylongKey_w b l (fun b2 => K (Go.Eng.AV.sc (Go.Eng.SV.bool b2)) [(Option.some (Go.Eng.HE.mk Bool.false (Go.Eng.HB.rows (Go.Sa.B.str l))))])
  | _, _ => none
noncomputable def OA_impl_Seal_w (N : Nat) (G_impl_TagOf : ∀ {R : Type} (s : ByteArray) (s1 : ByteArray) (k : ByteArray → Option R), Option R) (G_impl_Crypt : ∀ {R : Type} (s : ByteArray) (n : Int) (s1 : ByteArray) (k : ByteArray → Option R), Option R) (G_impl_ysealKey_w : ∀ {R : Type} (s : ByteArray) (b : Bool) (n : Int) (l : List Int) (k : ByteArray → Option R), Option R) (G_impl_ysealOk_w : ∀ {R : Type} (b : Bool) (n : Int) (l : List Int) (k : Bool → Option R), Option R) (G_impl_ylongKey_w : ∀ {R : Type} (b : Bool) (l : List ByteArray) (k : Bool → Option R), Option R) : Orc E := addFn 60 (pa_impl_Seal_w__o_impl_TagOf N G_impl_TagOf G_impl_Crypt G_impl_ysealKey_w G_impl_ysealOk_w G_impl_ylongKey_w) (addFn 40 (pa_impl_Seal_w__o_impl_Crypt N G_impl_TagOf G_impl_Crypt G_impl_ysealKey_w G_impl_ysealOk_w G_impl_ylongKey_w) (addFn 59 (pa_impl_Seal_w__o_impl_ysealKey_w N G_impl_TagOf G_impl_Crypt G_impl_ysealKey_w G_impl_ysealOk_w G_impl_ylongKey_w) (addFn 58 (pa_impl_Seal_w__o_impl_ysealOk_w N G_impl_TagOf G_impl_Crypt G_impl_ysealKey_w G_impl_ysealOk_w G_impl_ylongKey_w) (addFn 57 (pa_impl_Seal_w__o_impl_ylongKey_w N G_impl_TagOf G_impl_Crypt G_impl_ysealKey_w G_impl_ysealOk_w G_impl_ylongKey_w) (noFn)))))
theorem O_impl_Seal_w_ok (N : Nat) : OrcOk (O_impl_Seal_w N) := addFn_ok (o_impl_TagOf_ok N) (addFn_ok (o_impl_Crypt_ok N) (addFn_ok (o_impl_ysealKey_w_ok N) (addFn_ok (o_impl_ysealOk_w_ok N) (addFn_ok (o_impl_ylongKey_w_ok N) (noFn_ok)))))
def g_impl_Seal_w (N : Nat) {R : Type} (s : ByteArray) (b : Bool) (n : Int) (s1 : ByteArray) (l : List Int) (k : Int → Int → ByteArray → ByteArray → Option R) : Option R :=
  (oK (cond (decide (((((ByteArray.size s) : Nat) : Int) > (4032 : Int))))
    (some Bool.true)
    (g_impl_ylongKey_w N Bool.false [s1] fun b1 =>
      (cond b1
      (some Bool.true)
      (some (decide (((((List.length l) : Nat) : Int) > (1000 : Int)))))))) fun j =>
  (cond j
  (k (2 : Int) (0 : Int) (ByteArray.mk (List.toArray [])) (ByteArray.mk (List.toArray [])))
  (g_impl_ysealOk_w N b n l fun b2 =>
    (cond (!b2)
    (k (1 : Int) (0 : Int) (ByteArray.mk (List.toArray [])) (ByteArray.mk (List.toArray [])))
    (g_impl_ysealKey_w N s b n l fun s2 =>
      (g_impl_Crypt N s2 (1 : Int) s1 fun s3 =>
      (g_impl_TagOf N s2 s3 fun s4 =>
      (k (0 : Int) n s3 s4))))))))
def ga_g_impl_Seal_w (N : Nat) (G_impl_TagOf : ∀ {R : Type} (s : ByteArray) (s1 : ByteArray) (k : ByteArray → Option R), Option R) (G_impl_Crypt : ∀ {R : Type} (s : ByteArray) (n : Int) (s1 : ByteArray) (k : ByteArray → Option R), Option R) (G_impl_ysealKey_w : ∀ {R : Type} (s : ByteArray) (b : Bool) (n : Int) (l : List Int) (k : ByteArray → Option R), Option R) (G_impl_ysealOk_w : ∀ {R : Type} (b : Bool) (n : Int) (l : List Int) (k : Bool → Option R), Option R) (G_impl_ylongKey_w : ∀ {R : Type} (b : Bool) (l : List ByteArray) (k : Bool → Option R), Option R) {R : Type} (s : ByteArray) (b : Bool) (n : Int) (s1 : ByteArray) (l : List Int) (k : Int → Int → ByteArray → ByteArray → Option R) : Option R :=
  (oK (cond (decide (((((ByteArray.size s) : Nat) : Int) > (4032 : Int))))
    (some Bool.true)
    (G_impl_ylongKey_w Bool.false [s1] fun b1 =>
      (cond b1
      (some Bool.true)
      (some (decide (((((List.length l) : Nat) : Int) > (1000 : Int)))))))) fun j =>
  (cond j
  (k (2 : Int) (0 : Int) (ByteArray.mk (List.toArray [])) (ByteArray.mk (List.toArray [])))
  (G_impl_ysealOk_w b n l fun b2 =>
    (cond (!b2)
    (k (1 : Int) (0 : Int) (ByteArray.mk (List.toArray [])) (ByteArray.mk (List.toArray [])))
    (G_impl_ysealKey_w s b n l fun s2 =>
      (G_impl_Crypt s2 (1 : Int) s1 fun s3 =>
      (G_impl_TagOf s2 s3 fun s4 =>
      (k (0 : Int) n s3 s4))))))))
theorem ea_e_impl_Seal_w (N : Nat) (G_impl_TagOf : ∀ {R : Type} (s : ByteArray) (s1 : ByteArray) (k : ByteArray → Option R), Option R) (G_impl_Crypt : ∀ {R : Type} (s : ByteArray) (n : Int) (s1 : ByteArray) (k : ByteArray → Option R), Option R) (G_impl_ysealKey_w : ∀ {R : Type} (s : ByteArray) (b : Bool) (n : Int) (l : List Int) (k : ByteArray → Option R), Option R) (G_impl_ysealOk_w : ∀ {R : Type} (b : Bool) (n : Int) (l : List Int) (k : Bool → Option R), Option R) (G_impl_ylongKey_w : ∀ {R : Type} (b : Bool) (l : List ByteArray) (k : Bool → Option R), Option R) {R : Type} (s : ByteArray) (b : Bool) (n : Int) (s1 : ByteArray) (l : List Int) (K : AV → Hp E → Option R) :
    runFnI (E := E) (OA_impl_Seal_w N G_impl_TagOf G_impl_Crypt G_impl_ysealKey_w G_impl_ysealOk_w G_impl_ylongKey_w) (noIt) sl_impl_Seal_w J_impl_Seal_w Go.Proofs.Try.f14 [(Go.Eng.AV.sc (Go.Eng.SV.str s)), (Go.Eng.AV.sc (Go.Eng.SV.slc 0 Option.none b)), (Go.Eng.AV.sc (Go.Eng.SV.int Go.IntKind.i64 n)), (Go.Eng.AV.sc (Go.Eng.SV.str s1))] [(Option.some (Go.Eng.HE.mk Bool.false (Go.Eng.HB.rows (Go.Sa.B.i64 l))))] K =
      ga_g_impl_Seal_w N G_impl_TagOf G_impl_Crypt G_impl_ysealKey_w G_impl_ysealOk_w G_impl_ylongKey_w s b n s1 l (fun n1 n2 s5 s6 => K (Go.Eng.AV.agg [(Go.Eng.SV.int Go.IntKind.i64 n1), (Go.Eng.SV.int Go.IntKind.i64 n2), (Go.Eng.SV.str s5), (Go.Eng.SV.str s6)]) [(Option.some (Go.Eng.HE.mk Bool.false (Go.Eng.HB.rows (Go.Sa.B.i64 l))))]) := by kernel_rfl
theorem e_impl_Seal_w (N : Nat) {R : Type} (s : ByteArray) (b : Bool) (n : Int) (s1 : ByteArray) (l : List Int) (K : AV → Hp E → Option R) :
    runFnI (E := E) (O_impl_Seal_w N) (noIt) sl_impl_Seal_w J_impl_Seal_w Go.Proofs.Try.f14 [(Go.Eng.AV.sc (Go.Eng.SV.str s)), (Go.Eng.AV.sc (Go.Eng.SV.slc 0 Option.none b)), (Go.Eng.AV.sc (Go.Eng.SV.int Go.IntKind.i64 n)), (Go.Eng.AV.sc (Go.Eng.SV.str s1))] [(Option.some (Go.Eng.HE.mk Bool.false (Go.Eng.HB.rows (Go.Sa.B.i64 l))))] K =
      g_impl_Seal_w N s b n s1 l (fun n1 n2 s5 s6 => K (Go.Eng.AV.agg [(Go.Eng.SV.int Go.IntKind.i64 n1), (Go.Eng.SV.int Go.IntKind.i64 n2), (Go.Eng.SV.str s5), (Go.Eng.SV.str s6)]) [(Option.some (Go.Eng.HE.mk Bool.false (Go.Eng.HB.rows (Go.Sa.B.i64 l))))]) := castPr (by kernel_rfl) (ea_e_impl_Seal_w N (g_impl_TagOf N) (g_impl_Crypt N) (g_impl_ysealKey_w N) (g_impl_ysealOk_w N) (g_impl_ylongKey_w N) s b n s1 l K)
def o_impl_Seal_w (N : Nat) {R : Type} (args : List AV) (H : Hp E) (K : AV → Hp E → Option R) : Option R :=
  match args, H with
  | [(Go.Eng.AV.sc (Go.Eng.SV.str s)), (Go.Eng.AV.sc (Go.Eng.SV.slc 0 Option.none b)), (Go.Eng.AV.sc (Go.Eng.SV.int Go.IntKind.i64 n)), (Go.Eng.AV.sc (Go.Eng.SV.str s1))], [(Option.some (Go.Eng.HE.mk Bool.false (Go.Eng.HB.rows (Go.Sa.B.i64 l))))] => g_impl_Seal_w N s b n s1 l (fun n1 n2 s5 s6 => K (Go.Eng.AV.agg [(Go.Eng.SV.int Go.IntKind.i64 n1), (Go.Eng.SV.int Go.IntKind.i64 n2), (Go.Eng.SV.str s5), (Go.Eng.SV.str s6)]) [(Option.some (Go.Eng.HE.mk Bool.false (Go.Eng.HB.rows (Go.Sa.B.i64 l))))])
  | _, _ => none
theorem o_impl_Seal_w_ok (N : Nat) : FnOk E 14 (o_impl_Seal_w N) := by
  intro R args H K r h
  unfold o_impl_Seal_w at h
  dsimp only at h
  split at h
  · exact fnB_ok (ids := []) (top := []) ok (O_impl_Seal_w_ok N) (jn_ok _ _ _) Go.Proofs.Try.func14 (by kernel_rfl) (IT := noIt) (sl := sl_impl_Seal_w) (J := J_impl_Seal_w) (K := K) (H := [(Option.some (Go.Eng.HE.mk Bool.false (Go.Eng.HB.rows (Go.Sa.B.i64 _))))]) (noIt_ok) (by kernel_rfl) rfl ((e_impl_Seal_w N _ _ _ _ _ K).trans h)
  · cases h
/-! ### loop.example/g00038/spec.l01IsWord -/
abbrev sl_spec_l01IsWord : SlotT := []
abbrev J_spec_l01IsWord : JT := jn [(1, [(2, .b)])] [] []
noncomputable def O_spec_l01IsWord (N : Nat) : Orc E := noFn
theorem O_spec_l01IsWord_ok (N : Nat) : OrcOk (O_spec_l01IsWord N) := noFn_ok
def g_spec_l01IsWord (N : Nat) {R : Type} (n : Int) (k : Bool → Option R) : Option R :=
  (oK (cond (decide ((n ≥ (0 : Int))))
    (some (decide ((n < (4294967296 : Int)))))
    (some Bool.false)) fun j =>
  (k j))
theorem e_spec_l01IsWord (N : Nat) {R : Type} (n : Int) (K : AV → Hp E → Option R) :
    runFnI (E := E) (O_spec_l01IsWord N) (noIt) sl_spec_l01IsWord J_spec_l01IsWord Go.Proofs.Try.f78 [(Go.Eng.AV.sc (Go.Eng.SV.int Go.IntKind.i64 n))] [] K =
      g_spec_l01IsWord N n (fun b => K (Go.Eng.AV.sc (Go.Eng.SV.bool b)) []) := by kernel_rfl
def o_spec_l01IsWord (N : Nat) {R : Type} (args : List AV) (H : Hp E) (K : AV → Hp E → Option R) : Option R :=
  match args, H with
  | [(Go.Eng.AV.sc (Go.Eng.SV.int Go.IntKind.i64 n))], [] => g_spec_l01IsWord N n (fun b => K (Go.Eng.AV.sc (Go.Eng.SV.bool b)) [])
  | _, _ => none
theorem o_spec_l01IsWord_ok (N : Nat) : FnOk E 78 (o_spec_l01IsWord N) := by
  intro R args H K r h
  unfold o_spec_l01IsWord at h
  dsimp only at h
  split at h
  · exact fnB_ok (ids := []) (top := []) ok (O_spec_l01IsWord_ok N) (jn_ok _ _ _) Go.Proofs.Try.func78 (by kernel_rfl) (IT := noIt) (sl := sl_spec_l01IsWord) (J := J_spec_l01IsWord) (K := K) (H := []) (noIt_ok) (by kernel_rfl) rfl ((e_spec_l01IsWord N _ K).trans h)
  · cases h
/-! ### loop.example/g00038/spec.l04Words -/
abbrev sl_spec_l04Words_r : SlotT := [(0, ([0, 1, 5], [4]))]
abbrev J_spec_l04Words_r : JT := jn [] [] []
noncomputable def O_spec_l04Words_r (N : Nat) : Orc E := addFn 78 (o_spec_l01IsWord N) (noFn)
theorem O_spec_l04Words_r_ok (N : Nat) : OrcOk (O_spec_l04Words_r N) := addFn_ok (o_spec_l01IsWord_ok N) (noFn_ok)
def s_spec_l04Words_r_0 (N : Nat) {R : Type} (b1 : Bool) (n1 : Int) (l1 : List Int) (n2 : Int) (ag : Int → Option R)  (kR : Option R) (kN : Option R) : Option R :=
  (cond (decide ((n2 < n1)))
  (cond ((decide (((0 : Int) ≤ n2))) && (decide ((n2 < (((List.length l1) : Nat) : Int)))))
    (elemK l1 (Int.toNat n2) fun x =>
      (g_spec_l01IsWord N x fun b2 =>
      (cond (!b2)
      kR
      (ag (Go.IntKind.wrap Go.IntKind.i64 (n2 + (1 : Int)))))))
    none)
  kN)
def l_spec_l04Words_r_0 (N : Nat) {R : Type} (b1 : Bool) (n1 : Int) (l1 : List Int) (kR : Option R) (kN : Option R) : Nat → Int → Option R
  | 0, _ => none
  | f + 1, n2 => s_spec_l04Words_r_0 N b1 n1 l1 n2 (fun n2 => l_spec_l04Words_r_0 N b1 n1 l1 kR kN f n2)  kR kN
def c_spec_l04Words_r_0 (N : Nat) {R : Type} (b1 : Bool) (n1 : Int) (l1 : List Int) (n2 : Int) (kR : Option R) (kN : Option R) : Option R := l_spec_l04Words_r_0 N b1 n1 l1 kR kN N n2
theorem se_spec_l04Words_r_0 (N : Nat) {R : Type} (b1 : Bool) (n1 : Int) (l1 : List Int) (n2 : Int) (AG : List (Option AV) → Hp E → Option R) (KL : Ex → List (Option AV) → Hp E → Option R) :
    iterStep (E := E) (O_spec_l04Words_r N) (fun {R} => LI (noIt) 1 21 sl_spec_l04Words_r (R := R)) J_spec_l04Words_r 1 21 0 [0, 1, 5] [4] (body Go.Proofs.Try.f112 0) AG KL [(Option.some (Go.Eng.AV.sc (Go.Eng.SV.slc 0 Option.none b1))), (Option.some (Go.Eng.AV.sc (Go.Eng.SV.int Go.IntKind.i64 n1))), (Option.some (Go.Eng.AV.sc (Go.Eng.SV.int Go.IntKind.i64 n2)))] [(Option.some (Go.Eng.HE.mk Bool.true (Go.Eng.HB.rows (Go.Sa.B.i64 l1))))] =
      s_spec_l04Words_r_0 N b1 n1 l1 n2 (fun n2 => AG [(Option.some (Go.Eng.AV.sc (Go.Eng.SV.slc 0 Option.none b1))), (Option.some (Go.Eng.AV.sc (Go.Eng.SV.int Go.IntKind.i64 n1))), (Option.some (Go.Eng.AV.sc (Go.Eng.SV.int Go.IntKind.i64 n2)))] [(Option.some (Go.Eng.HE.mk Bool.true (Go.Eng.HB.rows (Go.Sa.B.i64 l1))))])  (KL Go.Eng.Ex.ret [(Option.some (Go.Eng.AV.sc (Go.Eng.SV.bool Bool.false)))] [(Option.some (Go.Eng.HE.mk Bool.true (Go.Eng.HB.rows (Go.Sa.B.i64 l1))))]) (KL Go.Eng.Ex.normal [Option.none] [(Option.some (Go.Eng.HE.mk Bool.true (Go.Eng.HB.rows (Go.Sa.B.i64 l1))))]) := by kernel_rfl
theorem le_spec_l04Words_r_0 (N : Nat) {R : Type} (b1 : Bool) (n1 : Int) (l1 : List Int) (KL : Ex → List (Option AV) → Hp E → Option R) : ∀ (f : Nat), ∀ (n2 : Int), iterK (E := E) (O_spec_l04Words_r N) (fun {R} => LI (noIt) 1 21 sl_spec_l04Words_r (R := R)) J_spec_l04Words_r 1 21 0 [0, 1, 5] [4] (body Go.Proofs.Try.f112 0) f [(Option.some (Go.Eng.AV.sc (Go.Eng.SV.slc 0 Option.none b1))), (Option.some (Go.Eng.AV.sc (Go.Eng.SV.int Go.IntKind.i64 n1))), (Option.some (Go.Eng.AV.sc (Go.Eng.SV.int Go.IntKind.i64 n2)))] [(Option.some (Go.Eng.HE.mk Bool.true (Go.Eng.HB.rows (Go.Sa.B.i64 l1))))] KL = l_spec_l04Words_r_0 N b1 n1 l1 (KL Go.Eng.Ex.ret [(Option.some (Go.Eng.AV.sc (Go.Eng.SV.bool Bool.false)))] [(Option.some (Go.Eng.HE.mk Bool.true (Go.Eng.HB.rows (Go.Sa.B.i64 l1))))]) (KL Go.Eng.Ex.normal [Option.none] [(Option.some (Go.Eng.HE.mk Bool.true (Go.Eng.HB.rows (Go.Sa.B.i64 l1))))]) f n2 := by
  intro f
  induction f with
  | zero => intros; rfl
  | succ f ih =>
    intro n2
    rw [iterK_succ, se_spec_l04Words_r_0]
    exact (congrArg (fun z0 => s_spec_l04Words_r_0 N b1 n1 l1 n2 z0 (KL Go.Eng.Ex.ret [(Option.some (Go.Eng.AV.sc (Go.Eng.SV.bool Bool.false)))] [(Option.some (Go.Eng.HE.mk Bool.true (Go.Eng.HB.rows (Go.Sa.B.i64 l1))))]) (KL Go.Eng.Ex.normal [Option.none] [(Option.some (Go.Eng.HE.mk Bool.true (Go.Eng.HB.rows (Go.Sa.B.i64 l1))))])) (funext fun n2 => ih n2))
def i_spec_l04Words_r_0 (N : Nat) {R : Type} (vs : List (Option AV)) (H : Hp E) (KL : Ex → List (Option AV) → Hp E → Option R) : Option R :=
  match vs, H with
  | [(Option.some (Go.Eng.AV.sc (Go.Eng.SV.slc 0 Option.none b1))), (Option.some (Go.Eng.AV.sc (Go.Eng.SV.int Go.IntKind.i64 n1))), (Option.some (Go.Eng.AV.sc (Go.Eng.SV.int Go.IntKind.i64 n2)))], [(Option.some (Go.Eng.HE.mk Bool.true (Go.Eng.HB.rows (Go.Sa.B.i64 l1))))] => c_spec_l04Words_r_0 N b1 n1 l1 n2 (KL Go.Eng.Ex.ret [(Option.some (Go.Eng.AV.sc (Go.Eng.SV.bool Bool.false)))] [(Option.some (Go.Eng.HE.mk Bool.true (Go.Eng.HB.rows (Go.Sa.B.i64 l1))))]) (KL Go.Eng.Ex.normal [Option.none] [(Option.some (Go.Eng.HE.mk Bool.true (Go.Eng.HB.rows (Go.Sa.B.i64 l1))))])
  | _, _ => none
noncomputable def IT_spec_l04Words_r_0 (N : Nat) : Its E := addIt 0 (i_spec_l04Words_r_0 N) (noIt)
theorem IT_spec_l04Words_r_0_ok (N : Nat) : ItOk (IT_spec_l04Words_r_0 N) 1 21 sl_spec_l04Words_r (lsB Go.Proofs.Try.f112 [0]) :=
  addItB_ok (inner := []) ok (O_spec_l04Words_r_ok N) (jn_ok _ _ _) (noIt_ok) rfl (by kernel_rfl) rfl fun vs H KL r h => by
    unfold i_spec_l04Words_r_0 at h
    split at h
    · exact ⟨_, (le_spec_l04Words_r_0 N _ _ _ KL N _).trans h⟩
    · cases h
def g_spec_l04Words_r (N : Nat) {R : Type} (b : Bool) (n : Int) (l : List Int) (k : Bool → Option R) : Option R :=
  (cond ((((List.length l) : Nat) : Int) != n)
  (k Bool.false)
  (c_spec_l04Words_r_0 N b n l (0 : Int) (
    (k Bool.false)) (
    (k Bool.true))))
theorem e_spec_l04Words_r (N : Nat) {R : Type} (b : Bool) (n : Int) (l : List Int) (K : AV → Hp E → Option R) :
    runFnI (E := E) (O_spec_l04Words_r N) (IT_spec_l04Words_r_0 N) sl_spec_l04Words_r J_spec_l04Words_r Go.Proofs.Try.f112 [(Go.Eng.AV.sc (Go.Eng.SV.slc 0 Option.none b)), (Go.Eng.AV.sc (Go.Eng.SV.int Go.IntKind.i64 n))] [(Option.some (Go.Eng.HE.mk Bool.true (Go.Eng.HB.rows (Go.Sa.B.i64 l))))] K =
      g_spec_l04Words_r N b n l (fun b3 => K (Go.Eng.AV.sc (Go.Eng.SV.bool b3)) [(Option.some (Go.Eng.HE.mk Bool.true (Go.Eng.HB.rows (Go.Sa.B.i64 l))))]) := by kernel_rfl
def o_spec_l04Words_r (N : Nat) {R : Type} (args : List AV) (H : Hp E) (K : AV → Hp E → Option R) : Option R :=
  match args, H with
  | [(Go.Eng.AV.sc (Go.Eng.SV.slc 0 Option.none b)), (Go.Eng.AV.sc (Go.Eng.SV.int Go.IntKind.i64 n))], [(Option.some (Go.Eng.HE.mk Bool.true (Go.Eng.HB.rows (Go.Sa.B.i64 l))))] => g_spec_l04Words_r N b n l (fun b3 => K (Go.Eng.AV.sc (Go.Eng.SV.bool b3)) [(Option.some (Go.Eng.HE.mk Bool.true (Go.Eng.HB.rows (Go.Sa.B.i64 l))))])
  | _, _ => none
theorem o_spec_l04Words_r_ok (N : Nat) : FnOk E 112 (o_spec_l04Words_r N) := by
  intro R args H K r h
  unfold o_spec_l04Words_r at h
  dsimp only at h
  split at h
  · exact fnB_ok (ids := [0]) (top := [0]) ok (O_spec_l04Words_r_ok N) (jn_ok _ _ _) Go.Proofs.Try.func112 (by kernel_rfl) (IT := IT_spec_l04Words_r_0 N) (sl := sl_spec_l04Words_r) (J := J_spec_l04Words_r) (K := K) (H := [(Option.some (Go.Eng.HE.mk Bool.true (Go.Eng.HB.rows (Go.Sa.B.i64 _))))]) (IT_spec_l04Words_r_0_ok N) (by kernel_rfl) rfl ((e_spec_l04Words_r N _ _ _ K).trans h)
  · cases h
end Go.Sa
