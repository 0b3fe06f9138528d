import Derived.Test.YtmmgjioemnhoaaaSpec
import Derived.Test.YtmmgjioemnhoaaaPLb
import Derived.Test.YtmmgjioemnhoaaaW1
set_option linter.all false
namespace Go.Sa
open Go Go.Eng Go.Proofs
set_option maxRecDepth 100000
/-! ### loop.example/g00038/impl.ypower -/
abbrev sl_impl_ypower : SlotT := [(0, ([0, 1, 5], [5]))]
abbrev J_impl_ypower : JT := jn [] [(14, [(5, .i .i64)])] []
noncomputable def O_impl_ypower (N : Nat) : Orc E := noFn
theorem O_impl_ypower_ok (N : Nat) : OrcOk (O_impl_ypower N) := noFn_ok
def s_impl_ypower_0 (N : Nat) {R : Type}  (n2 : Int) (n3 : Int) (n4 : Int) (ag : Int → Int → Int → Option R)  (kN : Int → Option R) : Option R :=
  (cond (decide ((n3 > (0 : Int))))
  (oK (cond ((Go.IntKind.wrap Go.IntKind.i64 (((BitVec.toNat ((BitVec.ofInt 64 n3) &&& (BitVec.ofInt 64 (1 : Int)))) : Nat) : Int)) == (1 : Int))
      (some (Int.tmod (Go.IntKind.wrap Go.IntKind.i64 (n4 * n2)) (2147482763 : Int)))
      (some n4)) fun j =>
    (ag (Int.tmod (Go.IntKind.wrap Go.IntKind.i64 (n2 * n2)) (2147482763 : Int)) (Int.fdiv n3 (2 : Int)) j))
  (kN n4))
def l_impl_ypower_0 (N : Nat) {R : Type}  (kN : Int → Option R) : Nat → Int → Int → Int → Option R
  | 0, _, _, _ => none
  | f + 1, n2, n3, n4 => s_impl_ypower_0 N  n2 n3 n4 (fun n2 n3 n4 => l_impl_ypower_0 N  kN f n2 n3 n4)  kN
def c_impl_ypower_0 (N : Nat) {R : Type}  (n2 : Int) (n3 : Int) (n4 : Int) (kN : Int → Option R) : Option R := l_impl_ypower_0 N  kN N n2 n3 n4
theorem se_impl_ypower_0 (N : Nat) {R : Type}  (n2 : Int) (n3 : Int) (n4 : Int) (AG : List (Option AV) → Hp E → Option R) (KL : Ex → List (Option AV) → Hp E → Option R) :
    iterStep (E := E) (O_impl_ypower N) (fun {R} => LI (noIt) 0 24 sl_impl_ypower (R := R)) J_impl_ypower 0 24 0 [0, 1, 5] [5] (body Go.Proofs.Try.f71 0) AG KL [(Option.some (Go.Eng.AV.sc (Go.Eng.SV.int Go.IntKind.i64 n2))), (Option.some (Go.Eng.AV.sc (Go.Eng.SV.int Go.IntKind.i64 n3))), (Option.some (Go.Eng.AV.sc (Go.Eng.SV.int Go.IntKind.i64 n4)))] [] =
      s_impl_ypower_0 N  n2 n3 n4 (fun n2 n3 n4 => AG [(Option.some (Go.Eng.AV.sc (Go.Eng.SV.int Go.IntKind.i64 n2))), (Option.some (Go.Eng.AV.sc (Go.Eng.SV.int Go.IntKind.i64 n3))), (Option.some (Go.Eng.AV.sc (Go.Eng.SV.int Go.IntKind.i64 n4)))] [])  (fun n7 => KL Go.Eng.Ex.normal [(Option.some (Go.Eng.AV.sc (Go.Eng.SV.int Go.IntKind.i64 n7)))] []) := by kernel_rfl
theorem le_impl_ypower_0 (N : Nat) {R : Type}  (KL : Ex → List (Option AV) → Hp E → Option R) : ∀ (f : Nat), ∀ (n2 : Int) (n3 : Int) (n4 : Int), iterK (E := E) (O_impl_ypower N) (fun {R} => LI (noIt) 0 24 sl_impl_ypower (R := R)) J_impl_ypower 0 24 0 [0, 1, 5] [5] (body Go.Proofs.Try.f71 0) f [(Option.some (Go.Eng.AV.sc (Go.Eng.SV.int Go.IntKind.i64 n2))), (Option.some (Go.Eng.AV.sc (Go.Eng.SV.int Go.IntKind.i64 n3))), (Option.some (Go.Eng.AV.sc (Go.Eng.SV.int Go.IntKind.i64 n4)))] [] KL = l_impl_ypower_0 N  (fun n7 => KL Go.Eng.Ex.normal [(Option.some (Go.Eng.AV.sc (Go.Eng.SV.int Go.IntKind.i64 n7)))] []) f n2 n3 n4 := by
  intro f
  induction f with
  | zero => intros; rfl
  | succ f ih =>
    intro n2 n3 n4
    rw [iterK_succ, se_impl_ypower_0]
    exact (congrArg (fun z0 => s_impl_ypower_0 N  n2 n3 n4 z0 (fun n7 => KL Go.Eng.Ex.normal [(Option.some (Go.Eng.AV.sc (Go.Eng.SV.int Go.IntKind.i64 n7)))] [])) (funext fun n2 => funext fun n3 => funext fun n4 => ih n2 n3 n4))
def i_impl_ypower_0 (N : Nat) {R : Type} (vs : List (Option AV)) (H : Hp E) (KL : Ex → List (Option AV) → Hp E → Option R) : Option R :=
  match vs, H with
  | [(Option.some (Go.Eng.AV.sc (Go.Eng.SV.int Go.IntKind.i64 n2))), (Option.some (Go.Eng.AV.sc (Go.Eng.SV.int Go.IntKind.i64 n3))), (Option.some (Go.Eng.AV.sc (Go.Eng.SV.int Go.IntKind.i64 n4)))], [] => c_impl_ypower_0 N  n2 n3 n4 (fun n8 => KL Go.Eng.Ex.normal [(Option.some (Go.Eng.AV.sc (Go.Eng.SV.int Go.IntKind.i64 n8)))] [])
  | _, _ => none
noncomputable def IT_impl_ypower_0 (N : Nat) : Its E := addIt 0 (i_impl_ypower_0 N) (noIt)
theorem IT_impl_ypower_0_ok (N : Nat) : ItOk (IT_impl_ypower_0 N) 0 24 sl_impl_ypower (lsB Go.Proofs.Try.f71 [0]) :=
  addItB_ok (inner := []) ok (O_impl_ypower_ok N) (jn_ok _ _ _) (noIt_ok) rfl (by kernel_rfl) rfl fun vs H KL r h => by
    unfold i_impl_ypower_0 at h
    split at h
    · exact ⟨_, (le_impl_ypower_0 N KL N _ _ _).trans h⟩
    · cases h
def g_impl_ypower (N : Nat) {R : Type} (n : Int) (n1 : Int) (k : Int → Option R) : Option R :=
  (c_impl_ypower_0 N (Int.tmod n (2147482763 : Int)) n1 (1 : Int) fun n5 =>
  (k n5))
theorem e_impl_ypower (N : Nat) {R : Type} (n : Int) (n1 : Int) (K : AV → Hp E → Option R) :
    runFnI (E := E) (O_impl_ypower N) (IT_impl_ypower_0 N) sl_impl_ypower J_impl_ypower Go.Proofs.Try.f71 [(Go.Eng.AV.sc (Go.Eng.SV.int Go.IntKind.i64 n)), (Go.Eng.AV.sc (Go.Eng.SV.int Go.IntKind.i64 n1))] [] K =
      g_impl_ypower N n n1 (fun n6 => K (Go.Eng.AV.sc (Go.Eng.SV.int Go.IntKind.i64 n6)) []) := by kernel_rfl
def o_impl_ypower (N : Nat) {R : Type} (args : List AV) (H : Hp E) (K : AV → Hp E → Option R) : Option R :=
  match args, H with
  | [(Go.Eng.AV.sc (Go.Eng.SV.int Go.IntKind.i64 n)), (Go.Eng.AV.sc (Go.Eng.SV.int Go.IntKind.i64 n1))], [] => g_impl_ypower N n n1 (fun n6 => K (Go.Eng.AV.sc (Go.Eng.SV.int Go.IntKind.i64 n6)) [])
  | _, _ => none
theorem o_impl_ypower_ok (N : Nat) : FnOk E 71 (o_impl_ypower N) := by
  intro R args H K r h
  unfold o_impl_ypower at h
  dsimp only at h
  split at h
  · exact fnB_ok (ids := [0]) (top := [0]) ok (O_impl_ypower_ok N) (jn_ok _ _ _) Go.Proofs.Try.func71 (by kernel_rfl) (IT := IT_impl_ypower_0 N) (sl := sl_impl_ypower) (J := J_impl_ypower) (K := K) (H := []) (IT_impl_ypower_0_ok N) (by kernel_rfl) rfl ((e_impl_ypower N _ _ K).trans h)
  · cases h
/-! ### loop.example/g00038/impl.yquoteE -/
abbrev sl_impl_yquoteE_w : SlotT := []
abbrev J_impl_yquoteE_w : JT := jn [] [] []
noncomputable def O_impl_yquoteE_w (N : Nat) : Orc E := addFn 67 (o_impl_ymix N) (addFn 68 (o_impl_yjoin_w N) (addFn 70 (o_impl_yregsText_w N) (addFn 69 (o_impl_PutWord N) (noFn))))
theorem O_impl_yquoteE_w_ok (N : Nat) : OrcOk (O_impl_yquoteE_w N) := addFn_ok (o_impl_ymix_ok N) (addFn_ok (o_impl_yjoin_w_ok N) (addFn_ok (o_impl_yregsText_w_ok N) (addFn_ok (o_impl_PutWord_ok N) (noFn_ok))))
def g_impl_yquoteE_w (N : Nat) {R : Type} (n : Int) (s : ByteArray) (b : Bool) (l : List Int) (k : Int → (List Int) → Option R) : Option R :=
  (g_impl_PutWord N n fun s1 =>
  (g_impl_yregsText_w N b l fun s2 l1 =>
  (g_impl_yjoin_w N Bool.false [s1, s2, s] fun s3 =>
  (g_impl_ymix N s3 (42 : Int) fun n1 =>
  (k (Int.tmod n1 (1073741381 : Int)) l1)))))
theorem e_impl_yquoteE_w (N : Nat) {R : Type} (n : Int) (s : ByteArray) (b : Bool) (l : List Int) (K : AV → Hp E → Option R) :
    runFnI (E := E) (O_impl_yquoteE_w N) (noIt) sl_impl_yquoteE_w J_impl_yquoteE_w Go.Proofs.Try.f72 [(Go.Eng.AV.sc (Go.Eng.SV.int Go.IntKind.i64 n)), (Go.Eng.AV.sc (Go.Eng.SV.str s)), (Go.Eng.AV.sc (Go.Eng.SV.slc 0 Option.none b))] [(Option.some (Go.Eng.HE.mk Bool.false (Go.Eng.HB.rows (Go.Sa.B.i64 l))))] K =
      g_impl_yquoteE_w N n s b l (fun n2 l2 => K (Go.Eng.AV.sc (Go.Eng.SV.int Go.IntKind.i64 n2)) [(Option.some (Go.Eng.HE.mk Bool.false (Go.Eng.HB.rows (Go.Sa.B.i64 l2))))]) := by kernel_rfl
def o_impl_yquoteE_w (N : Nat) {R : Type} (args : List AV) (H : Hp E) (K : AV → Hp E → Option R) : Option R :=
  match args, H with
  | [(Go.Eng.AV.sc (Go.Eng.SV.int Go.IntKind.i64 n)), (Go.Eng.AV.sc (Go.Eng.SV.str s)), (Go.Eng.AV.sc (Go.Eng.SV.slc 0 Option.none b))], [(Option.some (Go.Eng.HE.mk Bool.false (Go.Eng.HB.rows (Go.Sa.B.i64 l))))] => g_impl_yquoteE_w N n s b l (fun n2 l2 => K (Go.Eng.AV.sc (Go.Eng.SV.int Go.IntKind.i64 n2)) [(Option.some (Go.Eng.HE.mk Bool.false (Go.Eng.HB.rows (Go.Sa.B.i64 l2))))])
  | _, _ => none
theorem o_impl_yquoteE_w_ok (N : Nat) : FnOk E 72 (o_impl_yquoteE_w N) := by
  intro R args H K r h
  unfold o_impl_yquoteE_w at h
  dsimp only at h
  split at h
  · exact fnB_ok (ids := []) (top := []) ok (O_impl_yquoteE_w_ok N) (jn_ok _ _ _) Go.Proofs.Try.func72 (by kernel_rfl) (IT := noIt) (sl := sl_impl_yquoteE_w) (J := J_impl_yquoteE_w) (K := K) (H := [(Option.some (Go.Eng.HE.mk Bool.false (Go.Eng.HB.rows (Go.Sa.B.i64 _))))]) (noIt_ok) (by kernel_rfl) rfl ((e_impl_yquoteE_w N _ _ _ _ K).trans h)
  · cases h
/-! ### loop.example/g00038/impl.QuoteOf -/
abbrev sl_impl_QuoteOf_w : SlotT := []
abbrev J_impl_QuoteOf_w : JT := jn [(1, [(21, .b)])] [] []
noncomputable def O_impl_QuoteOf_w (N : Nat) : Orc E := addFn 72 (o_impl_yquoteE_w N) (addFn 71 (o_impl_ypower N) (addFn 67 (o_impl_ymix N) (addFn 68 (o_impl_yjoin_w N) (addFn 70 (o_impl_yregsText_w N) (addFn 69 (o_impl_PutWord N) (addFn 66 (o_impl_yregsOk_r N) (addFn 57 (o_impl_ylongKey_w N) (addFn 65 (o_impl_ysecretOk N) (noFn)))))))))
theorem O_impl_QuoteOf_w_ok (N : Nat) : OrcOk (O_impl_QuoteOf_w N) := addFn_ok (o_impl_yquoteE_w_ok N) (addFn_ok (o_impl_ypower_ok N) (addFn_ok (o_impl_ymix_ok N) (addFn_ok (o_impl_yjoin_w_ok N) (addFn_ok (o_impl_yregsText_w_ok N) (addFn_ok (o_impl_PutWord_ok N) (addFn_ok (o_impl_yregsOk_r_ok N) (addFn_ok (o_impl_ylongKey_w_ok N) (addFn_ok (o_impl_ysecretOk_ok N) (noFn_ok)))))))))
def g_impl_QuoteOf_w (N : Nat) {R : Type} (n : Int) (s : ByteArray) (b : Bool) (l : List Int) (k : Int → Int → (List Int) → Option R) : Option R :=
  (oK (g_impl_ysecretOk N n fun b1 =>
    (cond (!b1)
    (some Bool.true)
    (g_impl_ylongKey_w N Bool.false [s] fun b2 =>
      (cond b2
      (some Bool.true)
      (g_impl_yregsOk_r N b l fun b3 =>
        (some (!b3))))))) fun j =>
  (cond j
  (k (0 : Int) (0 : Int) l)
  (g_impl_PutWord N n fun s1 =>
    (g_impl_yregsText_w N b l fun s2 l1 =>
    (g_impl_yjoin_w N Bool.false [s1, s2, s] fun s3 =>
    (g_impl_ymix N s3 (41 : Int) fun n1 =>
    (g_impl_ypower N (4 : Int) (Go.IntKind.wrap Go.IntKind.i64 ((1 : Int) + (Int.tmod n1 (1073741380 : Int)))) fun n2 =>
    (g_impl_yquoteE_w N n2 s b l1 fun n3 l2 =>
    (k n2 (Int.tmod (Go.IntKind.wrap Go.IntKind.i64 ((Go.IntKind.wrap Go.IntKind.i64 ((1 : Int) + (Int.tmod n1 (1073741380 : Int)))) + (Go.IntKind.wrap Go.IntKind.i64 (n3 * n)))) (1073741381 : Int)) l2)))))))))
theorem e_impl_QuoteOf_w (N : Nat) {R : Type} (n : Int) (s : ByteArray) (b : Bool) (l : List Int) (K : AV → Hp E → Option R) :
    runFnI (E := E) (O_impl_QuoteOf_w N) (noIt) sl_impl_QuoteOf_w J_impl_QuoteOf_w Go.Proofs.Try.f23 [(Go.Eng.AV.sc (Go.Eng.SV.int Go.IntKind.i64 n)), (Go.Eng.AV.sc (Go.Eng.SV.str s)), (Go.Eng.AV.sc (Go.Eng.SV.slc 0 Option.none b))] [(Option.some (Go.Eng.HE.mk Bool.false (Go.Eng.HB.rows (Go.Sa.B.i64 l))))] K =
      g_impl_QuoteOf_w N n s b l (fun n4 n5 l3 => K (Go.Eng.AV.agg [(Go.Eng.SV.int Go.IntKind.i64 n4), (Go.Eng.SV.int Go.IntKind.i64 n5)]) [(Option.some (Go.Eng.HE.mk Bool.false (Go.Eng.HB.rows (Go.Sa.B.i64 l3))))]) := by kernel_rfl
def o_impl_QuoteOf_w (N : Nat) {R : Type} (args : List AV) (H : Hp E) (K : AV → Hp E → Option R) : Option R :=
  match args, H with
  | [(Go.Eng.AV.sc (Go.Eng.SV.int Go.IntKind.i64 n)), (Go.Eng.AV.sc (Go.Eng.SV.str s)), (Go.Eng.AV.sc (Go.Eng.SV.slc 0 Option.none b))], [(Option.some (Go.Eng.HE.mk Bool.false (Go.Eng.HB.rows (Go.Sa.B.i64 l))))] => g_impl_QuoteOf_w N n s b l (fun n4 n5 l3 => K (Go.Eng.AV.agg [(Go.Eng.SV.int Go.IntKind.i64 n4), (Go.Eng.SV.int Go.IntKind.i64 n5)]) [(Option.some (Go.Eng.HE.mk Bool.false (Go.Eng.HB.rows (Go.Sa.B.i64 l3))))])
  | _, _ => none
theorem o_impl_QuoteOf_w_ok (N : Nat) : FnOk E 23 (o_impl_QuoteOf_w N) := by
  intro R args H K r h
  unfold o_impl_QuoteOf_w at h
  dsimp only at h
  split at h
  · exact fnB_ok (ids := []) (top := []) ok (O_impl_QuoteOf_w_ok N) (jn_ok _ _ _) Go.Proofs.Try.func23 (by kernel_rfl) (IT := noIt) (sl := sl_impl_QuoteOf_w) (J := J_impl_QuoteOf_w) (K := K) (H := [(Option.some (Go.Eng.HE.mk Bool.false (Go.Eng.HB.rows (Go.Sa.B.i64 _))))]) (noIt_ok) (by kernel_rfl) rfl ((e_impl_QuoteOf_w N _ _ _ _ K).trans h)
  · cases h
/-! ### loop.example/g00038/impl.PublicOf -/
abbrev sl_impl_PublicOf : SlotT := []
abbrev J_impl_PublicOf : JT := jn [] [] []
noncomputable def O_impl_PublicOf (N : Nat) : Orc E := addFn 71 (o_impl_ypower N) (addFn 65 (o_impl_ysecretOk N) (noFn))
theorem O_impl_PublicOf_ok (N : Nat) : OrcOk (O_impl_PublicOf N) := addFn_ok (o_impl_ypower_ok N) (addFn_ok (o_impl_ysecretOk_ok N) (noFn_ok))
def g_impl_PublicOf (N : Nat) {R : Type} (n : Int) (k : Int → Option R) : Option R :=
  (g_impl_ysecretOk N n fun b =>
  (cond (!b)
  (k (0 : Int))
  (g_impl_ypower N (4 : Int) n fun n1 =>
    (k n1))))
theorem e_impl_PublicOf (N : Nat) {R : Type} (n : Int) (K : AV → Hp E → Option R) :
    runFnI (E := E) (O_impl_PublicOf N) (noIt) sl_impl_PublicOf J_impl_PublicOf Go.Proofs.Try.f24 [(Go.Eng.AV.sc (Go.Eng.SV.int Go.IntKind.i64 n))] [] K =
      g_impl_PublicOf N n (fun n2 => K (Go.Eng.AV.sc (Go.Eng.SV.int Go.IntKind.i64 n2)) []) := by kernel_rfl
def o_impl_PublicOf (N : Nat) {R : Type} (args : List AV) (H : Hp E) (K : AV → Hp E → Option R) : Option R :=
  match args, H with
  | [(Go.Eng.AV.sc (Go.Eng.SV.int Go.IntKind.i64 n))], [] => g_impl_PublicOf N n (fun n2 => K (Go.Eng.AV.sc (Go.Eng.SV.int Go.IntKind.i64 n2)) [])
  | _, _ => none
theorem o_impl_PublicOf_ok (N : Nat) : FnOk E 24 (o_impl_PublicOf N) := by
  intro R args H K r h
  unfold o_impl_PublicOf at h
  dsimp only at h
  split at h
  · exact fnB_ok (ids := []) (top := []) ok (O_impl_PublicOf_ok N) (jn_ok _ _ _) Go.Proofs.Try.func24 (by kernel_rfl) (IT := noIt) (sl := sl_impl_PublicOf) (J := J_impl_PublicOf) (K := K) (H := []) (noIt_ok) (by kernel_rfl) rfl ((e_impl_PublicOf N _ K).trans h)
  · cases h
/-! ### loop.example/g00038/spec.l15Power -/
abbrev sl_spec_l15Power : SlotT := [(0, ([0, 1, 5], [5]))]
abbrev J_spec_l15Power : JT := jn [] [(10, [(5, .i .i64)])] []
noncomputable def O_spec_l15Power (N : Nat) : Orc E := noFn
theorem O_spec_l15Power_ok (N : Nat) : OrcOk (O_spec_l15Power N) := noFn_ok
def s_spec_l15Power_0 (N : Nat) {R : Type}  (n2 : Int) (n3 : Int) (n4 : Int) (ag : Int → Int → Int → Option R)  (kN : Int → Option R) : Option R :=
  (cond (decide ((n3 > (0 : Int))))
  (oK (cond ((Int.tmod n3 (2 : Int)) == (1 : Int))
      (some (Int.tmod (Go.IntKind.wrap Go.IntKind.i64 (n4 * n2)) (2147482763 : Int)))
      (some n4)) fun j =>
    (ag (Int.tmod (Go.IntKind.wrap Go.IntKind.i64 (n2 * n2)) (2147482763 : Int)) (Go.IntKind.wrap Go.IntKind.i64 (Int.tdiv n3 (2 : Int))) j))
  (kN n4))
def l_spec_l15Power_0 (N : Nat) {R : Type}  (kN : Int → Option R) : Nat → Int → Int → Int → Option R
  | 0, _, _, _ => none
  | f + 1, n2, n3, n4 => s_spec_l15Power_0 N  n2 n3 n4 (fun n2 n3 n4 => l_spec_l15Power_0 N  kN f n2 n3 n4)  kN
def c_spec_l15Power_0 (N : Nat) {R : Type}  (n2 : Int) (n3 : Int) (n4 : Int) (kN : Int → Option R) : Option R := l_spec_l15Power_0 N  kN N n2 n3 n4
theorem se_spec_l15Power_0 (N : Nat) {R : Type}  (n2 : Int) (n3 : Int) (n4 : Int) (AG : List (Option AV) → Hp E → Option R) (KL : Ex → List (Option AV) → Hp E → Option R) :
    iterStep (E := E) (O_spec_l15Power N) (fun {R} => LI (noIt) 0 22 sl_spec_l15Power (R := R)) J_spec_l15Power 0 22 0 [0, 1, 5] [5] (body Go.Proofs.Try.f76 0) AG KL [(Option.some (Go.Eng.AV.sc (Go.Eng.SV.int Go.IntKind.i64 n2))), (Option.some (Go.Eng.AV.sc (Go.Eng.SV.int Go.IntKind.i64 n3))), (Option.some (Go.Eng.AV.sc (Go.Eng.SV.int Go.IntKind.i64 n4)))] [] =
      s_spec_l15Power_0 N  n2 n3 n4 (fun n2 n3 n4 => AG [(Option.some (Go.Eng.AV.sc (Go.Eng.SV.int Go.IntKind.i64 n2))), (Option.some (Go.Eng.AV.sc (Go.Eng.SV.int Go.IntKind.i64 n3))), (Option.some (Go.Eng.AV.sc (Go.Eng.SV.int Go.IntKind.i64 n4)))] [])  (fun n7 => KL Go.Eng.Ex.normal [(Option.some (Go.Eng.AV.sc (Go.Eng.SV.int Go.IntKind.i64 n7)))] []) := by kernel_rfl
theorem le_spec_l15Power_0 (N : Nat) {R : Type}  (KL : Ex → List (Option AV) → Hp E → Option R) : ∀ (f : Nat), ∀ (n2 : Int) (n3 : Int) (n4 : Int), iterK (E := E) (O_spec_l15Power N) (fun {R} => LI (noIt) 0 22 sl_spec_l15Power (R := R)) J_spec_l15Power 0 22 0 [0, 1, 5] [5] (body Go.Proofs.Try.f76 0) f [(Option.some (Go.Eng.AV.sc (Go.Eng.SV.int Go.IntKind.i64 n2))), (Option.some (Go.Eng.AV.sc (Go.Eng.SV.int Go.IntKind.i64 n3))), (Option.some (Go.Eng.AV.sc (Go.Eng.SV.int Go.IntKind.i64 n4)))] [] KL = l_spec_l15Power_0 N  (fun n7 => KL Go.Eng.Ex.normal [(Option.some (Go.Eng.AV.sc (Go.Eng.SV.int Go.IntKind.i64 n7)))] []) f n2 n3 n4 := by
  intro f
  induction f with
  | zero => intros; rfl
  | succ f ih =>
    intro n2 n3 n4
    rw [iterK_succ, se_spec_l15Power_0]
    exact (congrArg (fun z0 => s_spec_l15Power_0 N  n2 n3 n4 z0 (fun n7 => KL Go.Eng.Ex.normal [(Option.some (Go.Eng.AV.sc (Go.Eng.SV.int Go.IntKind.i64 n7)))] [])) (funext fun n2 => funext fun n3 => funext fun n4 => ih n2 n3 n4))
def i_spec_l15Power_0 (N : Nat) {R : Type} (vs : List (Option AV)) (H : Hp E) (KL : Ex → List (Option AV) → Hp E → Option R) : Option R :=
  match vs, H with
  | [(Option.some (Go.Eng.AV.sc (Go.Eng.SV.int Go.IntKind.i64 n2))), (Option.some (Go.Eng.AV.sc (Go.Eng.SV.int Go.IntKind.i64 n3))), (Option.some (Go.Eng.AV.sc (Go.Eng.SV.int Go.IntKind.i64 n4)))], [] => c_spec_l15Power_0 N  n2 n3 n4 (fun n8 => KL Go.Eng.Ex.normal [(Option.some (Go.Eng.AV.sc (Go.Eng.SV.int Go.IntKind.i64 n8)))] [])
  | _, _ => none
noncomputable def IT_spec_l15Power_0 (N : Nat) : Its E := addIt 0 (i_spec_l15Power_0 N) (noIt)
theorem IT_spec_l15Power_0_ok (N : Nat) : ItOk (IT_spec_l15Power_0 N) 0 22 sl_spec_l15Power (lsB Go.Proofs.Try.f76 [0]) :=
  addItB_ok (inner := []) ok (O_spec_l15Power_ok N) (jn_ok _ _ _) (noIt_ok) rfl (by kernel_rfl) rfl fun vs H KL r h => by
    unfold i_spec_l15Power_0 at h
    split at h
    · exact ⟨_, (le_spec_l15Power_0 N KL N _ _ _).trans h⟩
    · cases h
def g_spec_l15Power (N : Nat) {R : Type} (n : Int) (n1 : Int) (k : Int → Option R) : Option R :=
  (c_spec_l15Power_0 N n n1 (1 : Int) fun n5 =>
  (k n5))
theorem e_spec_l15Power (N : Nat) {R : Type} (n : Int) (n1 : Int) (K : AV → Hp E → Option R) :
    runFnI (E := E) (O_spec_l15Power N) (IT_spec_l15Power_0 N) sl_spec_l15Power J_spec_l15Power Go.Proofs.Try.f76 [(Go.Eng.AV.sc (Go.Eng.SV.int Go.IntKind.i64 n)), (Go.Eng.AV.sc (Go.Eng.SV.int Go.IntKind.i64 n1))] [] K =
      g_spec_l15Power N n n1 (fun n6 => K (Go.Eng.AV.sc (Go.Eng.SV.int Go.IntKind.i64 n6)) []) := by kernel_rfl
def o_spec_l15Power (N : Nat) {R : Type} (args : List AV) (H : Hp E) (K : AV → Hp E → Option R) : Option R :=
  match args, H with
  | [(Go.Eng.AV.sc (Go.Eng.SV.int Go.IntKind.i64 n)), (Go.Eng.AV.sc (Go.Eng.SV.int Go.IntKind.i64 n1))], [] => g_spec_l15Power N n n1 (fun n6 => K (Go.Eng.AV.sc (Go.Eng.SV.int Go.IntKind.i64 n6)) [])
  | _, _ => none
theorem o_spec_l15Power_ok (N : Nat) : FnOk E 76 (o_spec_l15Power N) := by
  intro R args H K r h
  unfold o_spec_l15Power at h
  dsimp only at h
  split at h
  · exact fnB_ok (ids := [0]) (top := [0]) ok (O_spec_l15Power_ok N) (jn_ok _ _ _) Go.Proofs.Try.func76 (by kernel_rfl) (IT := IT_spec_l15Power_0 N) (sl := sl_spec_l15Power) (J := J_spec_l15Power) (K := K) (H := []) (IT_spec_l15Power_0_ok N) (by kernel_rfl) rfl ((e_spec_l15Power N _ _ K).trans h)
  · cases h
/-! ### loop.example/g00038/spec.PublicOf -/
abbrev sl_spec_PublicOf : SlotT := []
abbrev J_spec_PublicOf : JT := jn [(1, [(8, .b)])] [] []
noncomputable def O_spec_PublicOf (N : Nat) : Orc E := addFn 76 (o_spec_l15Power N) (noFn)
theorem O_spec_PublicOf_ok (N : Nat) : OrcOk (O_spec_PublicOf N) := addFn_ok (o_spec_l15Power_ok N) (noFn_ok)
def g_spec_PublicOf (N : Nat) {R : Type} (n : Int) (k : Int → Option R) : Option R :=
  (oK (cond (decide ((n < (1 : Int))))
    (some Bool.true)
    (some (decide ((n ≥ (1073741381 : Int)))))) fun j =>
  (cond j
  (k (0 : Int))
  (g_spec_l15Power N (4 : Int) n fun n1 =>
    (k n1))))
theorem e_spec_PublicOf (N : Nat) {R : Type} (n : Int) (K : AV → Hp E → Option R) :
    runFnI (E := E) (O_spec_PublicOf N) (noIt) sl_spec_PublicOf J_spec_PublicOf Go.Proofs.Try.f26 [(Go.Eng.AV.sc (Go.Eng.SV.int Go.IntKind.i64 n))] [] K =
      g_spec_PublicOf N n (fun n2 => K (Go.Eng.AV.sc (Go.Eng.SV.int Go.IntKind.i64 n2)) []) := by kernel_rfl
def o_spec_PublicOf (N : Nat) {R : Type} (args : List AV) (H : Hp E) (K : AV → Hp E → Option R) : Option R :=
  match args, H with
  | [(Go.Eng.AV.sc (Go.Eng.SV.int Go.IntKind.i64 n))], [] => g_spec_PublicOf N n (fun n2 => K (Go.Eng.AV.sc (Go.Eng.SV.int Go.IntKind.i64 n2)) [])
  | _, _ => none
theorem o_spec_PublicOf_ok (N : Nat) : FnOk E 26 (o_spec_PublicOf N) := by
  intro R args H K r h
  unfold o_spec_PublicOf at h
  dsimp only at h
  split at h
  · exact fnB_ok (ids := []) (top := []) ok (O_spec_PublicOf_ok N) (jn_ok _ _ _) Go.Proofs.Try.func26 (by kernel_rfl) (IT := noIt) (sl := sl_spec_PublicOf) (J := J_spec_PublicOf) (K := K) (H := []) (noIt_ok) (by kernel_rfl) rfl ((e_spec_PublicOf N _ K).trans h)
  · cases h
/-! ### loop.example/g00038/spec.l01IsWord -/
abbrev sl_spec_l01IsWord : SlotT := []
abbrev J_spec_l01IsWord : JT := jn [(1, [(2, .b)])] [] []
noncomputable def O_spec_l01IsWord (N : Nat) : Orc E := noFn
theorem O_spec_l01IsWord_ok (N : Nat) : OrcOk (O_spec_l01IsWord N) := noFn_ok
def g_spec_l01IsWord (N : Nat) {R : Type} (n : Int) (k : Bool → Option R) : Option R :=
  (oK (cond (decide ((n ≥ (0 : Int))))
    (some (decide ((n < (4294967296 : Int)))))
    (some Bool.false)) fun j =>
  (k j))
theorem e_spec_l01IsWord (N : Nat) {R : Type} (n : Int) (K : AV → Hp E → Option R) :
    runFnI (E := E) (O_spec_l01IsWord N) (noIt) sl_spec_l01IsWord J_spec_l01IsWord Go.Proofs.Try.f78 [(Go.Eng.AV.sc (Go.Eng.SV.int Go.IntKind.i64 n))] [] K =
      g_spec_l01IsWord N n (fun b => K (Go.Eng.AV.sc (Go.Eng.SV.bool b)) []) := by kernel_rfl
def o_spec_l01IsWord (N : Nat) {R : Type} (args : List AV) (H : Hp E) (K : AV → Hp E → Option R) : Option R :=
  match args, H with
  | [(Go.Eng.AV.sc (Go.Eng.SV.int Go.IntKind.i64 n))], [] => g_spec_l01IsWord N n (fun b => K (Go.Eng.AV.sc (Go.Eng.SV.bool b)) [])
  | _, _ => none
theorem o_spec_l01IsWord_ok (N : Nat) : FnOk E 78 (o_spec_l01IsWord N) := by
  intro R args H K r h
  unfold o_spec_l01IsWord at h
  dsimp only at h
  split at h
  · exact fnB_ok (ids := []) (top := []) ok (O_spec_l01IsWord_ok N) (jn_ok _ _ _) Go.Proofs.Try.func78 (by kernel_rfl) (IT := noIt) (sl := sl_spec_l01IsWord) (J := J_spec_l01IsWord) (K := K) (H := []) (noIt_ok) (by kernel_rfl) rfl ((e_spec_l01IsWord N _ K).trans h)
  · cases h
/-! ### loop.example/g00038/spec.l04Words -/
abbrev sl_spec_l04Words_r : SlotT := [(0, ([0, 1, 5], [4]))]
abbrev J_spec_l04Words_r : JT := jn [] [] []
noncomputable def O_spec_l04Words_r (N : Nat) : Orc E := addFn 78 (o_spec_l01IsWord N) (noFn)
theorem O_spec_l04Words_r_ok (N : Nat) : OrcOk (O_spec_l04Words_r N) := addFn_ok (o_spec_l01IsWord_ok N) (noFn_ok)
def s_spec_l04Words_r_0 (N : Nat) {R : Type} (b1 : Bool) (n1 : Int) (l1 : List Int) (n2 : Int) (ag : Int → Option R)  (kR : Option R) (kN : Option R) : Option R :=
  (cond (decide ((n2 < n1)))
  (cond ((decide (((0 : Int) ≤ n2))) && (decide ((n2 < (((List.length l1) : Nat) : Int)))))
    (elemK l1 (Int.toNat n2) fun x =>
      (g_spec_l01IsWord N x fun b2 =>
      (cond (!b2)
      kR
      (ag (Go.IntKind.wrap Go.IntKind.i64 (n2 + (1 : Int)))))))
    none)
  kN)
def l_spec_l04Words_r_0 (N : Nat) {R : Type} (b1 : Bool) (n1 : Int) (l1 : List Int) (kR : Option R) (kN : Option R) : Nat → Int → Option R
  | 0, _ => none
  | f + 1, n2 => s_spec_l04Words_r_0 N b1 n1 l1 n2 (fun n2 => l_spec_l04Words_r_0 N b1 n1 l1 kR kN f n2)  kR kN
def c_spec_l04Words_r_0 (N : Nat) {R : Type} (b1 : Bool) (n1 : Int) (l1 : List Int) (n2 : Int) (kR : Option R) (kN : Option R) : Option R := l_spec_l04Words_r_0 N b1 n1 l1 kR kN N n2
theorem se_spec_l04Words_r_0 (N : Nat) {R : Type} (b1 : Bool) (n1 : Int) (l1 : List Int) (n2 : Int) (AG : List (Option AV) → Hp E → Option R) (KL : Ex → List (Option AV) → Hp E → Option R) :
    iterStep (E := E) (O_spec_l04Words_r N) (fun {R} => LI (noIt) 1 21 sl_spec_l04Words_r (R := R)) J_spec_l04Words_r 1 21 0 [0, 1, 5] [4] (body Go.Proofs.Try.f112 0) AG KL [(Option.some (Go.Eng.AV.sc (Go.Eng.SV.slc 0 Option.none b1))), (Option.some (Go.Eng.AV.sc (Go.Eng.SV.int Go.IntKind.i64 n1))), (Option.some (Go.Eng.AV.sc (Go.Eng.SV.int Go.IntKind.i64 n2)))] [(Option.some (Go.Eng.HE.mk Bool.true (Go.Eng.HB.rows (Go.Sa.B.i64 l1))))] =
      s_spec_l04Words_r_0 N b1 n1 l1 n2 (fun n2 => AG [(Option.some (Go.Eng.AV.sc (Go.Eng.SV.slc 0 Option.none b1))), (Option.some (Go.Eng.AV.sc (Go.Eng.SV.int Go.IntKind.i64 n1))), (Option.some (Go.Eng.AV.sc (Go.Eng.SV.int Go.IntKind.i64 n2)))] [(Option.some (Go.Eng.HE.mk Bool.true (Go.Eng.HB.rows (Go.Sa.B.i64 l1))))])  (KL Go.Eng.Ex.ret [(Option.some (Go.Eng.AV.sc (Go.Eng.SV.bool Bool.false)))] [(Option.some (Go.Eng.HE.mk Bool.true (Go.Eng.HB.rows (Go.Sa.B.i64 l1))))]) (KL Go.Eng.Ex.normal [Option.none] [(Option.some (Go.Eng.HE.mk Bool.true (Go.Eng.HB.rows (Go.Sa.B.i64 l1))))]) := by kernel_rfl
theorem le_spec_l04Words_r_0 (N : Nat) {R : Type} (b1 : Bool) (n1 : Int) (l1 : List Int) (KL : Ex → List (Option AV) → Hp E → Option R) : ∀ (f : Nat), ∀ (n2 : Int), iterK (E := E) (O_spec_l04Words_r N) (fun {R} => LI (noIt) 1 21 sl_spec_l04Words_r (R := R)) J_spec_l04Words_r 1 21 0 [0, 1, 5] [4] (body Go.Proofs.Try.f112 0) f [(Option.some (Go.Eng.AV.sc (Go.Eng.SV.slc 0 Option.none b1))), (Option.some (Go.Eng.AV.sc (Go.Eng.SV.int Go.IntKind.i64 n1))), (Option.some (Go.Eng.AV.sc (Go.Eng.SV.int Go.IntKind.i64 n2)))] [(Option.some (Go.Eng.HE.mk Bool.true (Go.Eng.HB.rows (Go.Sa.B.i64 l1))))] KL = l_spec_l04Words_r_0 N b1 n1 l1 (KL Go.Eng.Ex.ret [(Option.some (Go.Eng.AV.sc (Go.Eng.SV.bool Bool.false)))] [(Option.some (Go.Eng.HE.mk Bool.true (Go.Eng.HB.rows (Go.Sa.B.i64 l1))))]) (KL Go.Eng.Ex.normal [Option.none] [(Option.some (Go.Eng.HE.mk Bool.true (Go.Eng.HB.rows (Go.Sa.B.i64 l1))))]) f n2 := by
  intro f
  induction f with
  | zero => intros; rfl
  | succ f ih =>
    intro n2
    rw [iterK_succ, se_spec_l04Words_r_0]
    exact (congrArg (fun z0 => s_spec_l04Words_r_0 N b1 n1 l1 n2 z0 (KL Go.Eng.Ex.ret [(Option.some (Go.Eng.AV.sc (Go.Eng.SV.bool Bool.false)))] [(Option.some (Go.Eng.HE.mk Bool.true (Go.Eng.HB.rows (Go.Sa.B.i64 l1))))]) (KL Go.Eng.Ex.normal [Option.none] [(Option.some (Go.Eng.HE.mk Bool.true (Go.Eng.HB.rows (Go.Sa.B.i64 l1))))])) (funext fun n2 => ih n2))
def i_spec_l04Words_r_0 (N : Nat) {R : Type} (vs : List (Option AV)) (H : Hp E) (KL : Ex → List (Option AV) → Hp E → Option R) : Option R :=
  match vs, H with
  | [(Option.some (Go.Eng.AV.sc (Go.Eng.SV.slc 0 Option.none b1))), (Option.some (Go.Eng.AV.sc (Go.Eng.SV.int Go.IntKind.i64 n1))), (Option.some (Go.Eng.AV.sc (Go.Eng.SV.int Go.IntKind.i64 n2)))], [(Option.some (Go.Eng.HE.mk Bool.true (Go.Eng.HB.rows (Go.Sa.B.i64 l1))))] => c_spec_l04Words_r_0 N b1 n1 l1 n2 (KL Go.Eng.Ex.ret [(Option.some (Go.Eng.AV.sc (Go.Eng.SV.bool Bool.false)))] [(Option.some (Go.Eng.HE.mk Bool.true (Go.Eng.HB.rows (Go.Sa.B.i64 l1))))]) (KL Go.Eng.Ex.normal [Option.none] [(Option.some (Go.Eng.HE.mk Bool.true (Go.Eng.HB.rows (Go.Sa.B.i64 l1))))])
  | _, _ => none
noncomputable def IT_spec_l04Words_r_0 (N : Nat) : Its E := addIt 0 (i_spec_l04Words_r_0 N) (noIt)
theorem IT_spec_l04Words_r_0_ok (N : Nat) : ItOk (IT_spec_l04Words_r_0 N) 1 21 sl_spec_l04Words_r (lsB Go.Proofs.Try.f112 [0]) :=
  addItB_ok (inner := []) ok (O_spec_l04Words_r_ok N) (jn_ok _ _ _) (noIt_ok) rfl (by kernel_rfl) rfl fun vs H KL r h => by
    unfold i_spec_l04Words_r_0 at h
    split at h
    · exact ⟨_, (le_spec_l04Words_r_0 N _ _ _ KL N _).trans h⟩
    · cases h
def g_spec_l04Words_r (N : Nat) {R : Type} (b : Bool) (n : Int) (l : List Int) (k : Bool → Option R) : Option R :=
  (cond ((((List.length l) : Nat) : Int) != n)
  (k Bool.false)
  (c_spec_l04Words_r_0 N b n l (0 : Int) (
    (k Bool.false)) (
    (k Bool.true))))
theorem e_spec_l04Words_r (N : Nat) {R : Type} (b : Bool) (n : Int) (l : List Int) (K : AV → Hp E → Option R) :
    runFnI (E := E) (O_spec_l04Words_r N) (IT_spec_l04Words_r_0 N) sl_spec_l04Words_r J_spec_l04Words_r Go.Proofs.Try.f112 [(Go.Eng.AV.sc (Go.Eng.SV.slc 0 Option.none b)), (Go.Eng.AV.sc (Go.Eng.SV.int Go.IntKind.i64 n))] [(Option.some (Go.Eng.HE.mk Bool.true (Go.Eng.HB.rows (Go.Sa.B.i64 l))))] K =
      g_spec_l04Words_r N b n l (fun b3 => K (Go.Eng.AV.sc (Go.Eng.SV.bool b3)) [(Option.some (Go.Eng.HE.mk Bool.true (Go.Eng.HB.rows (Go.Sa.B.i64 l))))]) := by kernel_rfl
def o_spec_l04Words_r (N : Nat) {R : Type} (args : List AV) (H : Hp E) (K : AV → Hp E → Option R) : Option R :=
  match args, H with
  | [(Go.Eng.AV.sc (Go.Eng.SV.slc 0 Option.none b)), (Go.Eng.AV.sc (Go.Eng.SV.int Go.IntKind.i64 n))], [(Option.some (Go.Eng.HE.mk Bool.true (Go.Eng.HB.rows (Go.Sa.B.i64 l))))] => g_spec_l04Words_r N b n l (fun b3 => K (Go.Eng.AV.sc (Go.Eng.SV.bool b3)) [(Option.some (Go.Eng.HE.mk Bool.true (Go.Eng.HB.rows (Go.Sa.B.i64 l))))])
  | _, _ => none
theorem o_spec_l04Words_r_ok (N : Nat) : FnOk E 112 (o_spec_l04Words_r N) := by
  intro R args H K r h
  unfold o_spec_l04Words_r at h
  dsimp only at h
  split at h
  · exact fnB_ok (ids := [0]) (top := [0]) ok (O_spec_l04Words_r_ok N) (jn_ok _ _ _) Go.Proofs.Try.func112 (by kernel_rfl) (IT := IT_spec_l04Words_r_0 N) (sl := sl_spec_l04Words_r) (J := J_spec_l04Words_r) (K := K) (H := [(Option.some (Go.Eng.HE.mk Bool.true (Go.Eng.HB.rows (Go.Sa.B.i64 _))))]) (IT_spec_l04Words_r_0_ok N) (by kernel_rfl) rfl ((e_spec_l04Words_r N _ _ _ K).trans h)
  · cases h
/-! ### loop.example/g00038/spec.l15Regs -/
abbrev sl_spec_l15Regs_r : SlotT := []
abbrev J_spec_l15Regs_r : JT := jn [(1, [(2, .b)])] [] []
noncomputable def O_spec_l15Regs_r (N : Nat) : Orc E := addFn 112 (o_spec_l04Words_r N) (noFn)
theorem O_spec_l15Regs_r_ok (N : Nat) : OrcOk (O_spec_l15Regs_r N) := addFn_ok (o_spec_l04Words_r_ok N) (noFn_ok)
def g_spec_l15Regs_r (N : Nat) {R : Type} (b : Bool) (l : List Int) (k : Bool → Option R) : Option R :=
  (oK (cond (decide (((((List.length l) : Nat) : Int) ≥ (1 : Int))))
    (cond (decide (((((List.length l) : Nat) : Int) ≤ (8 : Int))))
      (g_spec_l04Words_r N b (((List.length l) : Nat) : Int) l fun b1 =>
        (some b1))
      (some Bool.false))
    (some Bool.false)) fun j =>
  (k j))
theorem e_spec_l15Regs_r (N : Nat) {R : Type} (b : Bool) (l : List Int) (K : AV → Hp E → Option R) :
    runFnI (E := E) (O_spec_l15Regs_r N) (noIt) sl_spec_l15Regs_r J_spec_l15Regs_r Go.Proofs.Try.f73 [(Go.Eng.AV.sc (Go.Eng.SV.slc 0 Option.none b))] [(Option.some (Go.Eng.HE.mk Bool.true (Go.Eng.HB.rows (Go.Sa.B.i64 l))))] K =
      g_spec_l15Regs_r N b l (fun b2 => K (Go.Eng.AV.sc (Go.Eng.SV.bool b2)) [(Option.some (Go.Eng.HE.mk Bool.true (Go.Eng.HB.rows (Go.Sa.B.i64 l))))]) := by kernel_rfl
def o_spec_l15Regs_r (N : Nat) {R : Type} (args : List AV) (H : Hp E) (K : AV → Hp E → Option R) : Option R :=
  match args, H with
  | [(Go.Eng.AV.sc (Go.Eng.SV.slc 0 Option.none b))], [(Option.some (Go.Eng.HE.mk Bool.true (Go.Eng.HB.rows (Go.Sa.B.i64 l))))] => g_spec_l15Regs_r N b l (fun b2 => K (Go.Eng.AV.sc (Go.Eng.SV.bool b2)) [(Option.some (Go.Eng.HE.mk Bool.true (Go.Eng.HB.rows (Go.Sa.B.i64 l))))])
  | _, _ => none
theorem o_spec_l15Regs_r_ok (N : Nat) : FnOk E 73 (o_spec_l15Regs_r N) := by
  intro R args H K r h
  unfold o_spec_l15Regs_r at h
  dsimp only at h
  split at h
  · exact fnB_ok (ids := []) (top := []) ok (O_spec_l15Regs_r_ok N) (jn_ok _ _ _) Go.Proofs.Try.func73 (by kernel_rfl) (IT := noIt) (sl := sl_spec_l15Regs_r) (J := J_spec_l15Regs_r) (K := K) (H := [(Option.some (Go.Eng.HE.mk Bool.true (Go.Eng.HB.rows (Go.Sa.B.i64 _))))]) (noIt_ok) (by kernel_rfl) rfl ((e_spec_l15Regs_r N _ _ K).trans h)
  · cases h
/-! ### loop.example/g00038/spec.PutWord -/
abbrev sl_spec_PutWord : SlotT := []
abbrev J_spec_PutWord : JT := jn [] [] []
noncomputable def O_spec_PutWord (N : Nat) : Orc E := addFn 107 (o_spec_Word N) (noFn)
theorem O_spec_PutWord_ok (N : Nat) : OrcOk (O_spec_PutWord N) := addFn_ok (o_spec_Word_ok N) (noFn_ok)
def g_spec_PutWord (N : Nat) {R : Type} (n : Int) (k : ByteArray → Option R) : Option R :=
  (g_spec_Word N n fun n1 =>
  (k (Go.Eng.toBytes (Go.Eng.seg [(Go.IntKind.wrap Go.IntKind.u8 n1), (Go.IntKind.wrap Go.IntKind.u8 (Int.fdiv n1 (256 : Int))), (Go.IntKind.wrap Go.IntKind.u8 (Int.fdiv n1 (65536 : Int))), (Go.IntKind.wrap Go.IntKind.u8 (Int.fdiv n1 (16777216 : Int)))] 0 (List.length [(Go.IntKind.wrap Go.IntKind.u8 n1), (Go.IntKind.wrap Go.IntKind.u8 (Int.fdiv n1 (256 : Int))), (Go.IntKind.wrap Go.IntKind.u8 (Int.fdiv n1 (65536 : Int))), (Go.IntKind.wrap Go.IntKind.u8 (Int.fdiv n1 (16777216 : Int)))])))))
theorem e_spec_PutWord (N : Nat) {R : Type} (n : Int) (K : AV → Hp E → Option R) :
    runFnI (E := E) (O_spec_PutWord N) (noIt) sl_spec_PutWord J_spec_PutWord Go.Proofs.Try.f93 [(Go.Eng.AV.sc (Go.Eng.SV.int Go.IntKind.i64 n))] [] K =
      g_spec_PutWord N n (fun s => K (Go.Eng.AV.sc (Go.Eng.SV.str s)) []) := by kernel_rfl
def o_spec_PutWord (N : Nat) {R : Type} (args : List AV) (H : Hp E) (K : AV → Hp E → Option R) : Option R :=
  match args, H with
  | [(Go.Eng.AV.sc (Go.Eng.SV.int Go.IntKind.i64 n))], [] => g_spec_PutWord N n (fun s => K (Go.Eng.AV.sc (Go.Eng.SV.str s)) [])
  | _, _ => none
theorem o_spec_PutWord_ok (N : Nat) : FnOk E 93 (o_spec_PutWord N) := by
  intro R args H K r h
  unfold o_spec_PutWord at h
  dsimp only at h
  split at h
  · exact fnB_ok (ids := []) (top := []) ok (O_spec_PutWord_ok N) (jn_ok _ _ _) Go.Proofs.Try.func93 (by kernel_rfl) (IT := noIt) (sl := sl_spec_PutWord) (J := J_spec_PutWord) (K := K) (H := []) (noIt_ok) (by kernel_rfl) rfl ((e_spec_PutWord N _ K).trans h)
  · cases h
/-! ### loop.example/g00038/spec.l15All -/
abbrev sl_spec_l15All_r : SlotT := [(0, ([1, 2, 7, 8], [2, 7]))]
abbrev J_spec_l15All_r : JT := jn [] [] []
noncomputable def O_spec_l15All_r (N : Nat) : Orc E := addFn 93 (o_spec_PutWord N) (noFn)
theorem O_spec_l15All_r_ok (N : Nat) : OrcOk (O_spec_l15All_r N) := addFn_ok (o_spec_PutWord_ok N) (noFn_ok)
def s_spec_l15All_r_0 (N : Nat) {R : Type} (b1 : Bool) (s2 : ByteArray) (l1 : List Int) (s3 : ByteArray) (n1 : Int) (ag : ByteArray → Int → Option R)  (kN : ByteArray → Option R) : Option R :=
  (cond (decide ((n1 < (((List.length l1) : Nat) : Int))))
  (cond ((decide (((0 : Int) ≤ n1))) && (decide ((n1 < (((List.length l1) : Nat) : Int)))))
    (elemK l1 (Int.toNat n1) fun x =>
      (g_spec_PutWord N x fun s4 =>
      (cond (Nat.ble ((ByteArray.size s3) + (ByteArray.size s4)) 9223372036854775807)
      (ag (s3 ++ s4) (Go.IntKind.wrap Go.IntKind.i64 (n1 + (1 : Int))))
      none)))
    none)
  (kN s3))
def l_spec_l15All_r_0 (N : Nat) {R : Type} (b1 : Bool) (s2 : ByteArray) (l1 : List Int) (kN : ByteArray → Option R) : Nat → ByteArray → Int → Option R
  | 0, _, _ => none
  | f + 1, s3, n1 => s_spec_l15All_r_0 N b1 s2 l1 s3 n1 (fun s3 n1 => l_spec_l15All_r_0 N b1 s2 l1 kN f s3 n1)  kN
def c_spec_l15All_r_0 (N : Nat) {R : Type} (b1 : Bool) (s2 : ByteArray) (l1 : List Int) (s3 : ByteArray) (n1 : Int) (kN : ByteArray → Option R) : Option R := l_spec_l15All_r_0 N b1 s2 l1 kN N s3 n1
theorem se_spec_l15All_r_0 (N : Nat) {R : Type} (b1 : Bool) (s2 : ByteArray) (l1 : List Int) (s3 : ByteArray) (n1 : Int) (AG : List (Option AV) → Hp E → Option R) (KL : Ex → List (Option AV) → Hp E → Option R) :
    iterStep (E := E) (O_spec_l15All_r N) (fun {R} => LI (noIt) 1 27 sl_spec_l15All_r (R := R)) J_spec_l15All_r 1 27 0 [1, 2, 7, 8] [2, 7] (body Go.Proofs.Try.f75 0) AG KL [(Option.some (Go.Eng.AV.sc (Go.Eng.SV.slc 0 Option.none b1))), (Option.some (Go.Eng.AV.sc (Go.Eng.SV.str s2))), (Option.some (Go.Eng.AV.sc (Go.Eng.SV.str s3))), (Option.some (Go.Eng.AV.sc (Go.Eng.SV.int Go.IntKind.i64 n1)))] [(Option.some (Go.Eng.HE.mk Bool.true (Go.Eng.HB.rows (Go.Sa.B.i64 l1))))] =
      s_spec_l15All_r_0 N b1 s2 l1 s3 n1 (fun s3 n1 => AG [(Option.some (Go.Eng.AV.sc (Go.Eng.SV.slc 0 Option.none b1))), (Option.some (Go.Eng.AV.sc (Go.Eng.SV.str s2))), (Option.some (Go.Eng.AV.sc (Go.Eng.SV.str s3))), (Option.some (Go.Eng.AV.sc (Go.Eng.SV.int Go.IntKind.i64 n1)))] [(Option.some (Go.Eng.HE.mk Bool.true (Go.Eng.HB.rows (Go.Sa.B.i64 l1))))])  (fun s7 => KL Go.Eng.Ex.normal [(Option.some (Go.Eng.AV.sc (Go.Eng.SV.str s2))), (Option.some (Go.Eng.AV.sc (Go.Eng.SV.str s7)))] [(Option.some (Go.Eng.HE.mk Bool.true (Go.Eng.HB.rows (Go.Sa.B.i64 l1))))]) := by kernel_rfl
theorem le_spec_l15All_r_0 (N : Nat) {R : Type} (b1 : Bool) (s2 : ByteArray) (l1 : List Int) (KL : Ex → List (Option AV) → Hp E → Option R) : ∀ (f : Nat), ∀ (s3 : ByteArray) (n1 : Int), iterK (E := E) (O_spec_l15All_r N) (fun {R} => LI (noIt) 1 27 sl_spec_l15All_r (R := R)) J_spec_l15All_r 1 27 0 [1, 2, 7, 8] [2, 7] (body Go.Proofs.Try.f75 0) f [(Option.some (Go.Eng.AV.sc (Go.Eng.SV.slc 0 Option.none b1))), (Option.some (Go.Eng.AV.sc (Go.Eng.SV.str s2))), (Option.some (Go.Eng.AV.sc (Go.Eng.SV.str s3))), (Option.some (Go.Eng.AV.sc (Go.Eng.SV.int Go.IntKind.i64 n1)))] [(Option.some (Go.Eng.HE.mk Bool.true (Go.Eng.HB.rows (Go.Sa.B.i64 l1))))] KL = l_spec_l15All_r_0 N b1 s2 l1 (fun s7 => KL Go.Eng.Ex.normal [(Option.some (Go.Eng.AV.sc (Go.Eng.SV.str s2))), (Option.some (Go.Eng.AV.sc (Go.Eng.SV.str s7)))] [(Option.some (Go.Eng.HE.mk Bool.true (Go.Eng.HB.rows (Go.Sa.B.i64 l1))))]) f s3 n1 := by
  intro f
  induction f with
  | zero => intros; rfl
  | succ f ih =>
    intro s3 n1
    rw [iterK_succ, se_spec_l15All_r_0]
    exact (congrArg (fun z0 => s_spec_l15All_r_0 N b1 s2 l1 s3 n1 z0 (fun s7 => KL Go.Eng.Ex.normal [(Option.some (Go.Eng.AV.sc (Go.Eng.SV.str s2))), (Option.some (Go.Eng.AV.sc (Go.Eng.SV.str s7)))] [(Option.some (Go.Eng.HE.mk Bool.true (Go.Eng.HB.rows (Go.Sa.B.i64 l1))))])) (funext fun s3 => funext fun n1 => ih s3 n1))
def i_spec_l15All_r_0 (N : Nat) {R : Type} (vs : List (Option AV)) (H : Hp E) (KL : Ex → List (Option AV) → Hp E → Option R) : Option R :=
  match vs, H with
  | [(Option.some (Go.Eng.AV.sc (Go.Eng.SV.slc 0 Option.none b1))), (Option.some (Go.Eng.AV.sc (Go.Eng.SV.str s2))), (Option.some (Go.Eng.AV.sc (Go.Eng.SV.str s3))), (Option.some (Go.Eng.AV.sc (Go.Eng.SV.int Go.IntKind.i64 n1)))], [(Option.some (Go.Eng.HE.mk Bool.true (Go.Eng.HB.rows (Go.Sa.B.i64 l1))))] => c_spec_l15All_r_0 N b1 s2 l1 s3 n1 (fun s8 => KL Go.Eng.Ex.normal [(Option.some (Go.Eng.AV.sc (Go.Eng.SV.str s2))), (Option.some (Go.Eng.AV.sc (Go.Eng.SV.str s8)))] [(Option.some (Go.Eng.HE.mk Bool.true (Go.Eng.HB.rows (Go.Sa.B.i64 l1))))])
  | _, _ => none
noncomputable def IT_spec_l15All_r_0 (N : Nat) : Its E := addIt 0 (i_spec_l15All_r_0 N) (noIt)
theorem IT_spec_l15All_r_0_ok (N : Nat) : ItOk (IT_spec_l15All_r_0 N) 1 27 sl_spec_l15All_r (lsB Go.Proofs.Try.f75 [0]) :=
  addItB_ok (inner := []) ok (O_spec_l15All_r_ok N) (jn_ok _ _ _) (noIt_ok) rfl (by kernel_rfl) rfl fun vs H KL r h => by
    unfold i_spec_l15All_r_0 at h
    split at h
    · exact ⟨_, (le_spec_l15All_r_0 N _ _ _ KL N _ _).trans h⟩
    · cases h
def g_spec_l15All_r (N : Nat) {R : Type} (n : Int) (b : Bool) (s : ByteArray) (l : List Int) (k : ByteArray → Option R) : Option R :=
  (g_spec_PutWord N n fun s1 =>
  (c_spec_l15All_r_0 N b s l s1 (0 : Int) fun s5 =>
  (cond (Nat.ble ((ByteArray.size s5) + (ByteArray.size s)) 9223372036854775807)
  (k (s5 ++ s))
  none)))
theorem e_spec_l15All_r (N : Nat) {R : Type} (n : Int) (b : Bool) (s : ByteArray) (l : List Int) (K : AV → Hp E → Option R) :
    runFnI (E := E) (O_spec_l15All_r N) (IT_spec_l15All_r_0 N) sl_spec_l15All_r J_spec_l15All_r Go.Proofs.Try.f75 [(Go.Eng.AV.sc (Go.Eng.SV.int Go.IntKind.i64 n)), (Go.Eng.AV.sc (Go.Eng.SV.slc 0 Option.none b)), (Go.Eng.AV.sc (Go.Eng.SV.str s))] [(Option.some (Go.Eng.HE.mk Bool.true (Go.Eng.HB.rows (Go.Sa.B.i64 l))))] K =
      g_spec_l15All_r N n b s l (fun s6 => K (Go.Eng.AV.sc (Go.Eng.SV.str s6)) [(Option.some (Go.Eng.HE.mk Bool.true (Go.Eng.HB.rows (Go.Sa.B.i64 l))))]) := by kernel_rfl
def o_spec_l15All_r (N : Nat) {R : Type} (args : List AV) (H : Hp E) (K : AV → Hp E → Option R) : Option R :=
  match args, H with
  | [(Go.Eng.AV.sc (Go.Eng.SV.int Go.IntKind.i64 n)), (Go.Eng.AV.sc (Go.Eng.SV.slc 0 Option.none b)), (Go.Eng.AV.sc (Go.Eng.SV.str s))], [(Option.some (Go.Eng.HE.mk Bool.true (Go.Eng.HB.rows (Go.Sa.B.i64 l))))] => g_spec_l15All_r N n b s l (fun s6 => K (Go.Eng.AV.sc (Go.Eng.SV.str s6)) [(Option.some (Go.Eng.HE.mk Bool.true (Go.Eng.HB.rows (Go.Sa.B.i64 l))))])
  | _, _ => none
theorem o_spec_l15All_r_ok (N : Nat) : FnOk E 75 (o_spec_l15All_r N) := by
  intro R args H K r h
  unfold o_spec_l15All_r at h
  dsimp only at h
  split at h
  · exact fnB_ok (ids := [0]) (top := [0]) ok (O_spec_l15All_r_ok N) (jn_ok _ _ _) Go.Proofs.Try.func75 (by kernel_rfl) (IT := IT_spec_l15All_r_0 N) (sl := sl_spec_l15All_r) (J := J_spec_l15All_r) (K := K) (H := [(Option.some (Go.Eng.HE.mk Bool.true (Go.Eng.HB.rows (Go.Sa.B.i64 _))))]) (IT_spec_l15All_r_0_ok N) (by kernel_rfl) rfl ((e_spec_l15All_r N _ _ _ _ K).trans h)
  · cases h
/-! ### loop.example/g00038/spec.Mix -/
abbrev sl_spec_Mix : SlotT := [(0, ([0, 5, 6], [5]))]
abbrev J_spec_Mix : JT := jn [] [] []
noncomputable def O_spec_Mix (N : Nat) : Orc E := addFn 113 (o_spec_l01Mod N) (noFn)
theorem O_spec_Mix_ok (N : Nat) : OrcOk (O_spec_Mix N) := addFn_ok (o_spec_l01Mod_ok N) (noFn_ok)
def s_spec_Mix_0 (N : Nat) {R : Type} (s1 : ByteArray) (n2 : Int) (n3 : Int) (ag : Int → Int → Option R)  (kN : Int → Option R) : Option R :=
  (cond (decide ((n3 < (((ByteArray.size s1) : Nat) : Int))))
  (cond ((decide (((0 : Int) ≤ n3))) && (decide ((n3 < (((ByteArray.size s1) : Nat) : Int)))))
    (ag (Int.tmod (Go.IntKind.wrap Go.IntKind.i64 ((Go.IntKind.wrap Go.IntKind.i64 ((Go.IntKind.wrap Go.IntKind.i64 (n2 * (65599 : Int))) + (Go.IntKind.wrap Go.IntKind.i64 (Go.Eng.bt s1 (Int.toNat n3))))) + (1 : Int))) (2147483629 : Int)) (Go.IntKind.wrap Go.IntKind.i64 (n3 + (1 : Int))))
    none)
  (kN n2))
def l_spec_Mix_0 (N : Nat) {R : Type} (s1 : ByteArray) (kN : Int → Option R) : Nat → Int → Int → Option R
  | 0, _, _ => none
  | f + 1, n2, n3 => s_spec_Mix_0 N s1 n2 n3 (fun n2 n3 => l_spec_Mix_0 N s1 kN f n2 n3)  kN
def c_spec_Mix_0 (N : Nat) {R : Type} (s1 : ByteArray) (n2 : Int) (n3 : Int) (kN : Int → Option R) : Option R := l_spec_Mix_0 N s1 kN N n2 n3
theorem se_spec_Mix_0 (N : Nat) {R : Type} (s1 : ByteArray) (n2 : Int) (n3 : Int) (AG : List (Option AV) → Hp E → Option R) (KL : Ex → List (Option AV) → Hp E → Option R) :
    iterStep (E := E) (O_spec_Mix N) (fun {R} => LI (noIt) 0 32 sl_spec_Mix (R := R)) J_spec_Mix 0 32 0 [0, 5, 6] [5] (body Go.Proofs.Try.f74 0) AG KL [(Option.some (Go.Eng.AV.sc (Go.Eng.SV.str s1))), (Option.some (Go.Eng.AV.sc (Go.Eng.SV.int Go.IntKind.i64 n2))), (Option.some (Go.Eng.AV.sc (Go.Eng.SV.int Go.IntKind.i64 n3)))] [] =
      s_spec_Mix_0 N s1 n2 n3 (fun n2 n3 => AG [(Option.some (Go.Eng.AV.sc (Go.Eng.SV.str s1))), (Option.some (Go.Eng.AV.sc (Go.Eng.SV.int Go.IntKind.i64 n2))), (Option.some (Go.Eng.AV.sc (Go.Eng.SV.int Go.IntKind.i64 n3)))] [])  (fun n6 => KL Go.Eng.Ex.normal [(Option.some (Go.Eng.AV.sc (Go.Eng.SV.int Go.IntKind.i64 n6)))] []) := by kernel_rfl
theorem le_spec_Mix_0 (N : Nat) {R : Type} (s1 : ByteArray) (KL : Ex → List (Option AV) → Hp E → Option R) : ∀ (f : Nat), ∀ (n2 : Int) (n3 : Int), iterK (E := E) (O_spec_Mix N) (fun {R} => LI (noIt) 0 32 sl_spec_Mix (R := R)) J_spec_Mix 0 32 0 [0, 5, 6] [5] (body Go.Proofs.Try.f74 0) f [(Option.some (Go.Eng.AV.sc (Go.Eng.SV.str s1))), (Option.some (Go.Eng.AV.sc (Go.Eng.SV.int Go.IntKind.i64 n2))), (Option.some (Go.Eng.AV.sc (Go.Eng.SV.int Go.IntKind.i64 n3)))] [] KL = l_spec_Mix_0 N s1 (fun n6 => KL Go.Eng.Ex.normal [(Option.some (Go.Eng.AV.sc (Go.Eng.SV.int Go.IntKind.i64 n6)))] []) f n2 n3 := by
  intro f
  induction f with
  | zero => intros; rfl
  | succ f ih =>
    intro n2 n3
    rw [iterK_succ, se_spec_Mix_0]
    exact (congrArg (fun z0 => s_spec_Mix_0 N s1 n2 n3 z0 (fun n6 => KL Go.Eng.Ex.normal [(Option.some (Go.Eng.AV.sc (Go.Eng.SV.int Go.IntKind.i64 n6)))] [])) (funext fun n2 => funext fun n3 => ih n2 n3))
def i_spec_Mix_0 (N : Nat) {R : Type} (vs : List (Option AV)) (H : Hp E) (KL : Ex → List (Option AV) → Hp E → Option R) : Option R :=
  match vs, H with
  | [(Option.some (Go.Eng.AV.sc (Go.Eng.SV.str s1))), (Option.some (Go.Eng.AV.sc (Go.Eng.SV.int Go.IntKind.i64 n2))), (Option.some (Go.Eng.AV.sc (Go.Eng.SV.int Go.IntKind.i64 n3)))], [] => c_spec_Mix_0 N s1 n2 n3 (fun n7 => KL Go.Eng.Ex.normal [(Option.some (Go.Eng.AV.sc (Go.Eng.SV.int Go.IntKind.i64 n7)))] [])
  | _, _ => none
noncomputable def IT_spec_Mix_0 (N : Nat) : Its E := addIt 0 (i_spec_Mix_0 N) (noIt)
theorem IT_spec_Mix_0_ok (N : Nat) : ItOk (IT_spec_Mix_0 N) 0 32 sl_spec_Mix (lsB Go.Proofs.Try.f74 [0]) :=
  addItB_ok (inner := []) ok (O_spec_Mix_ok N) (jn_ok _ _ _) (noIt_ok) rfl (by kernel_rfl) rfl fun vs H KL r h => by
    unfold i_spec_Mix_0 at h
    split at h
    · exact ⟨_, (le_spec_Mix_0 N _ KL N _ _).trans h⟩
    · cases h
def g_spec_Mix (N : Nat) {R : Type} (s : ByteArray) (n : Int) (k : Int → Option R) : Option R :=
  (cond (decide (((((ByteArray.size s) : Nat) : Int) > (65536 : Int))))
  (k (0 : Int))
  (g_spec_l01Mod N n (2147483629 : Int) fun n1 =>
    (c_spec_Mix_0 N s (Go.IntKind.wrap Go.IntKind.i64 (n1 + (1 : Int))) (0 : Int) fun n4 =>
    (k (Int.tmod (Go.IntKind.wrap Go.IntKind.i64 ((Go.IntKind.wrap Go.IntKind.i64 (n4 * (40503 : Int))) + (77 : Int))) (2147483629 : Int))))))
theorem e_spec_Mix (N : Nat) {R : Type} (s : ByteArray) (n : Int) (K : AV → Hp E → Option R) :
    runFnI (E := E) (O_spec_Mix N) (IT_spec_Mix_0 N) sl_spec_Mix J_spec_Mix Go.Proofs.Try.f74 [(Go.Eng.AV.sc (Go.Eng.SV.str s)), (Go.Eng.AV.sc (Go.Eng.SV.int Go.IntKind.i64 n))] [] K =
      g_spec_Mix N s n (fun n5 => K (Go.Eng.AV.sc (Go.Eng.SV.int Go.IntKind.i64 n5)) []) := by kernel_rfl
def o_spec_Mix (N : Nat) {R : Type} (args : List AV) (H : Hp E) (K : AV → Hp E → Option R) : Option R :=
  match args, H with
  | [(Go.Eng.AV.sc (Go.Eng.SV.str s)), (Go.Eng.AV.sc (Go.Eng.SV.int Go.IntKind.i64 n))], [] => g_spec_Mix N s n (fun n5 => K (Go.Eng.AV.sc (Go.Eng.SV.int Go.IntKind.i64 n5)) [])
  | _, _ => none
theorem o_spec_Mix_ok (N : Nat) : FnOk E 74 (o_spec_Mix N) := by
  intro R args H K r h
  unfold o_spec_Mix at h
  dsimp only at h
  split at h
  · exact fnB_ok (ids := [0]) (top := [0]) ok (O_spec_Mix_ok N) (jn_ok _ _ _) Go.Proofs.Try.func74 (by kernel_rfl) (IT := IT_spec_Mix_0 N) (sl := sl_spec_Mix) (J := J_spec_Mix) (K := K) (H := []) (IT_spec_Mix_0_ok N) (by kernel_rfl) rfl ((e_spec_Mix N _ _ K).trans h)
  · cases h
/-! ### loop.example/g00038/spec.QuoteOf -/
abbrev sl_spec_QuoteOf_r : SlotT := []
abbrev J_spec_QuoteOf_r : JT := jn [(1, [(22, .b)])] [] []
noncomputable def O_spec_QuoteOf_r (N : Nat) : Orc E := addFn 76 (o_spec_l15Power N) (addFn 74 (o_spec_Mix N) (addFn 75 (o_spec_l15All_r N) (addFn 73 (o_spec_l15Regs_r N) (addFn 26 (o_spec_PublicOf N) (noFn)))))
theorem O_spec_QuoteOf_r_ok (N : Nat) : OrcOk (O_spec_QuoteOf_r N) := addFn_ok (o_spec_l15Power_ok N) (addFn_ok (o_spec_Mix_ok N) (addFn_ok (o_spec_l15All_r_ok N) (addFn_ok (o_spec_l15Regs_r_ok N) (addFn_ok (o_spec_PublicOf_ok N) (noFn_ok)))))
def g_spec_QuoteOf_r (N : Nat) {R : Type} (n : Int) (s : ByteArray) (b : Bool) (l : List Int) (k : Int → Int → Option R) : Option R :=
  (oK (g_spec_PublicOf N n fun n1 =>
    (cond (n1 == (0 : Int))
    (some Bool.true)
    (cond (decide (((((ByteArray.size s) : Nat) : Int) > (4096 : Int))))
      (some Bool.true)
      (g_spec_l15Regs_r N b l fun b1 =>
        (some (!b1)))))) fun j =>
  (cond j
  (k (0 : Int) (0 : Int))
  (g_spec_l15All_r N n b s l fun s1 =>
    (g_spec_Mix N s1 (41 : Int) fun n2 =>
    (g_spec_l15Power N (4 : Int) (Go.IntKind.wrap Go.IntKind.i64 ((1 : Int) + (Int.tmod n2 (1073741380 : Int)))) fun n3 =>
    (g_spec_l15All_r N n3 b s l fun s2 =>
    (g_spec_Mix N s2 (42 : Int) fun n4 =>
    (k n3 (Int.tmod (Go.IntKind.wrap Go.IntKind.i64 ((Go.IntKind.wrap Go.IntKind.i64 ((1 : Int) + (Int.tmod n2 (1073741380 : Int)))) + (Int.tmod (Go.IntKind.wrap Go.IntKind.i64 ((Int.tmod n4 (1073741381 : Int)) * n)) (1073741381 : Int)))) (1073741381 : Int))))))))))
theorem e_spec_QuoteOf_r (N : Nat) {R : Type} (n : Int) (s : ByteArray) (b : Bool) (l : List Int) (K : AV → Hp E → Option R) :
    runFnI (E := E) (O_spec_QuoteOf_r N) (noIt) sl_spec_QuoteOf_r J_spec_QuoteOf_r Go.Proofs.Try.f25 [(Go.Eng.AV.sc (Go.Eng.SV.int Go.IntKind.i64 n)), (Go.Eng.AV.sc (Go.Eng.SV.str s)), (Go.Eng.AV.sc (Go.Eng.SV.slc 0 Option.none b))] [(Option.some (Go.Eng.HE.mk Bool.true (Go.Eng.HB.rows (Go.Sa.B.i64 l))))] K =
      g_spec_QuoteOf_r N n s b l (fun n5 n6 => K (Go.Eng.AV.agg [(Go.Eng.SV.int Go.IntKind.i64 n5), (Go.Eng.SV.int Go.IntKind.i64 n6)]) [(Option.some (Go.Eng.HE.mk Bool.true (Go.Eng.HB.rows (Go.Sa.B.i64 l))))]) := by kernel_rfl
def o_spec_QuoteOf_r (N : Nat) {R : Type} (args : List AV) (H : Hp E) (K : AV → Hp E → Option R) : Option R :=
  match args, H with
  | [(Go.Eng.AV.sc (Go.Eng.SV.int Go.IntKind.i64 n)), (Go.Eng.AV.sc (Go.Eng.SV.str s)), (Go.Eng.AV.sc (Go.Eng.SV.slc 0 Option.none b))], [(Option.some (Go.Eng.HE.mk Bool.true (Go.Eng.HB.rows (Go.Sa.B.i64 l))))] => g_spec_QuoteOf_r N n s b l (fun n5 n6 => K (Go.Eng.AV.agg [(Go.Eng.SV.int Go.IntKind.i64 n5), (Go.Eng.SV.int Go.IntKind.i64 n6)]) [(Option.some (Go.Eng.HE.mk Bool.true (Go.Eng.HB.rows (Go.Sa.B.i64 l))))])
  | _, _ => none
theorem o_spec_QuoteOf_r_ok (N : Nat) : FnOk E 25 (o_spec_QuoteOf_r N) := by
  intro R args H K r h
  unfold o_spec_QuoteOf_r at h
  dsimp only at h
  split at h
  · exact fnB_ok (ids := []) (top := []) ok (O_spec_QuoteOf_r_ok N) (jn_ok _ _ _) Go.Proofs.Try.func25 (by kernel_rfl) (IT := noIt) (sl := sl_spec_QuoteOf_r) (J := J_spec_QuoteOf_r) (K := K) (H := [(Option.some (Go.Eng.HE.mk Bool.true (Go.Eng.HB.rows (Go.Sa.B.i64 _))))]) (noIt_ok) (by kernel_rfl) rfl ((e_spec_QuoteOf_r N _ _ _ _ K).trans h)
  · cases h
/-! ### loop.example/g00038/impl.yregsText -/
def oc_impl_yregsText_r_95 (N : Nat) {R : Type} (args : List AV) (H : Hp E) (K : AV → Hp E → Option R) : Option R :=
  match args, H with
  | [(Go.Eng.AV.sc (Go.Eng.SV.ptr 0 0 0)), (Go.Eng.AV.sc (Go.Eng.SV.str _))], [(Option.some (Go.Eng.HE.mk Bool.false (Go.Eng.HB.exp (Option.some 116) [Go.Eng.SV.nilp, (Go.Eng.SV.slc 1 Option.none _)]))), (Option.some (Go.Eng.HE.mk Bool.false (Go.Eng.HB.rows (Go.Sa.B.u8 _))))] => o_strings_Builder_WriteString_Ww N args H K
  | [(Go.Eng.AV.sc (Go.Eng.SV.ptr 0 0 0)), (Go.Eng.AV.sc (Go.Eng.SV.str _))], [(Option.some (Go.Eng.HE.mk Bool.false (Go.Eng.HB.exp (Option.some 116) [(Go.Eng.SV.ptr 0 0 0), (Go.Eng.SV.slc 1 Option.none _)]))), (Option.some (Go.Eng.HE.mk Bool.false (Go.Eng.HB.rows (Go.Sa.B.u8 _))))] => o_strings_Builder_WriteString_Ww_v1 N args H K
  | _, _ => none
theorem oc_impl_yregsText_r_95_ok (N : Nat) : FnOk E 95 (oc_impl_yregsText_r_95 N) := by
  intro R args H K r h
  unfold oc_impl_yregsText_r_95 at h
  dsimp only at h
  split at h
  · exact o_strings_Builder_WriteString_Ww_ok N _ _ _ _ h
  · exact o_strings_Builder_WriteString_Ww_v1_ok N _ _ _ _ h
  · cases h
abbrev sl_impl_yregsText_r : SlotT := [(0, ([3, 6, 7, 8], [3]))]
abbrev J_impl_yregsText_r : JT := jn [] [] []
noncomputable def O_impl_yregsText_r (N : Nat) : Orc E := addFn 96 osp_96 (addFn 95 (oc_impl_yregsText_r_95 N) (addFn 69 (o_impl_PutWord N) (noFn)))
theorem O_impl_yregsText_r_ok (N : Nat) : OrcOk (O_impl_yregsText_r N) := addFn_ok osp_96_ok (addFn_ok (oc_impl_yregsText_r_95_ok N) (addFn_ok (o_impl_PutWord_ok N) (noFn_ok)))
def s_impl_yregsText_r_0 (N : Nat) {R : Type} (b4 : Bool) (n3 : Int) (l4 : List Int) (n4 : Int) (b5 : Bool) (l5 : List Int) (ag : Int → Bool → (List Int) → Option R)  (kN : (List Int) → Bool → (List Int) → Option R) : Option R :=
  (cond (decide ((n4 < n3)))
  (cond ((decide (((0 : Int) ≤ n4))) && (decide ((n4 < (((List.length l4) : Nat) : Int)))))
    (elemK l4 (Int.toNat n4) fun x1 =>
      (g_impl_PutWord N x1 fun s1 =>
      (g_strings_Builder_WriteString_Ww_v1 N s1 b5 l5 fun n5 b6 l6 =>
      (ag (Go.IntKind.wrap Go.IntKind.i64 (n4 + (1 : Int))) b6 l6))))
    none)
  (kN l4 b5 l5))
def l_impl_yregsText_r_0 (N : Nat) {R : Type} (b4 : Bool) (n3 : Int) (l4 : List Int) (kN : (List Int) → Bool → (List Int) → Option R) : Nat → Int → Bool → (List Int) → Option R
  | 0, _, _, _ => none
  | f + 1, n4, b5, l5 => s_impl_yregsText_r_0 N b4 n3 l4 n4 b5 l5 (fun n4 b5 l5 => l_impl_yregsText_r_0 N b4 n3 l4 kN f n4 b5 l5)  kN
def c_impl_yregsText_r_0 (N : Nat) {R : Type} (b4 : Bool) (n3 : Int) (l4 : List Int) (n4 : Int) (b5 : Bool) (l5 : List Int) (kN : (List Int) → Bool → (List Int) → Option R) : Option R := l_impl_yregsText_r_0 N b4 n3 l4 kN N n4 b5 l5
theorem se_impl_yregsText_r_0 (N : Nat) {R : Type} (b4 : Bool) (n3 : Int) (l4 : List Int) (n4 : Int) (b5 : Bool) (l5 : List Int) (AG : List (Option AV) → Hp E → Option R) (KL : Ex → List (Option AV) → Hp E → Option R) :
    iterStep (E := E) (O_impl_yregsText_r N) (fun {R} => LI (noIt) 1 17 sl_impl_yregsText_r (R := R)) J_impl_yregsText_r 1 17 0 [3, 6, 7, 8] [3] (body Go.Proofs.Try.f70 0) AG KL [(Option.some (Go.Eng.AV.sc (Go.Eng.SV.ptr 1 0 0))), (Option.some (Go.Eng.AV.sc (Go.Eng.SV.slc 0 Option.none b4))), (Option.some (Go.Eng.AV.sc (Go.Eng.SV.int Go.IntKind.i64 n3))), (Option.some (Go.Eng.AV.sc (Go.Eng.SV.int Go.IntKind.i64 n4)))] [(Option.some (Go.Eng.HE.mk Bool.true (Go.Eng.HB.rows (Go.Sa.B.i64 l4)))), (Option.some (Go.Eng.HE.mk Bool.false (Go.Eng.HB.exp (Option.some 116) [(Go.Eng.SV.ptr 1 0 0), (Go.Eng.SV.slc 2 Option.none b5)]))), (Option.some (Go.Eng.HE.mk Bool.false (Go.Eng.HB.rows (Go.Sa.B.u8 l5))))] =
      s_impl_yregsText_r_0 N b4 n3 l4 n4 b5 l5 (fun n4 b5 l5 => AG [(Option.some (Go.Eng.AV.sc (Go.Eng.SV.ptr 1 0 0))), (Option.some (Go.Eng.AV.sc (Go.Eng.SV.slc 0 Option.none b4))), (Option.some (Go.Eng.AV.sc (Go.Eng.SV.int Go.IntKind.i64 n3))), (Option.some (Go.Eng.AV.sc (Go.Eng.SV.int Go.IntKind.i64 n4)))] [(Option.some (Go.Eng.HE.mk Bool.true (Go.Eng.HB.rows (Go.Sa.B.i64 l4)))), (Option.some (Go.Eng.HE.mk Bool.false (Go.Eng.HB.exp (Option.some 116) [(Go.Eng.SV.ptr 1 0 0), (Go.Eng.SV.slc 2 Option.none b5)]))), (Option.some (Go.Eng.HE.mk Bool.false (Go.Eng.HB.rows (Go.Sa.B.u8 l5))))])  (fun l10 b8 l11 => KL Go.Eng.Ex.normal [(Option.some (Go.Eng.AV.sc (Go.Eng.SV.ptr 1 0 0)))] [(Option.some (Go.Eng.HE.mk Bool.true (Go.Eng.HB.rows (Go.Sa.B.i64 l10)))), (Option.some (Go.Eng.HE.mk Bool.false (Go.Eng.HB.exp (Option.some 116) [(Go.Eng.SV.ptr 1 0 0), (Go.Eng.SV.slc 2 Option.none b8)]))), (Option.some (Go.Eng.HE.mk Bool.false (Go.Eng.HB.rows (Go.Sa.B.u8 l11))))]) := by kernel_rfl
theorem le_impl_yregsText_r_0 (N : Nat) {R : Type} (b4 : Bool) (n3 : Int) (l4 : List Int) (KL : Ex → List (Option AV) → Hp E → Option R) : ∀ (f : Nat), ∀ (n4 : Int) (b5 : Bool) (l5 : List Int), iterK (E := E) (O_impl_yregsText_r N) (fun {R} => LI (noIt) 1 17 sl_impl_yregsText_r (R := R)) J_impl_yregsText_r 1 17 0 [3, 6, 7, 8] [3] (body Go.Proofs.Try.f70 0) f [(Option.some (Go.Eng.AV.sc (Go.Eng.SV.ptr 1 0 0))), (Option.some (Go.Eng.AV.sc (Go.Eng.SV.slc 0 Option.none b4))), (Option.some (Go.Eng.AV.sc (Go.Eng.SV.int Go.IntKind.i64 n3))), (Option.some (Go.Eng.AV.sc (Go.Eng.SV.int Go.IntKind.i64 n4)))] [(Option.some (Go.Eng.HE.mk Bool.true (Go.Eng.HB.rows (Go.Sa.B.i64 l4)))), (Option.some (Go.Eng.HE.mk Bool.false (Go.Eng.HB.exp (Option.some 116) [(Go.Eng.SV.ptr 1 0 0), (Go.Eng.SV.slc 2 Option.none b5)]))), (Option.some (Go.Eng.HE.mk Bool.false (Go.Eng.HB.rows (Go.Sa.B.u8 l5))))] KL = l_impl_yregsText_r_0 N b4 n3 l4 (fun l10 b8 l11 => KL Go.Eng.Ex.normal [(Option.some (Go.Eng.AV.sc (Go.Eng.SV.ptr 1 0 0)))] [(Option.some (Go.Eng.HE.mk Bool.true (Go.Eng.HB.rows (Go.Sa.B.i64 l10)))), (Option.some (Go.Eng.HE.mk Bool.false (Go.Eng.HB.exp (Option.some 116) [(Go.Eng.SV.ptr 1 0 0), (Go.Eng.SV.slc 2 Option.none b8)]))), (Option.some (Go.Eng.HE.mk Bool.false (Go.Eng.HB.rows (Go.Sa.B.u8 l11))))]) f n4 b5 l5 := by
  intro f
  induction f with
  | zero => intros; rfl
  | succ f ih =>
    intro n4 b5 l5
    rw [iterK_succ, se_impl_yregsText_r_0]
    exact (congrArg (fun z0 => s_impl_yregsText_r_0 N b4 n3 l4 n4 b5 l5 z0 (fun l10 b8 l11 => KL Go.Eng.Ex.normal [(Option.some (Go.Eng.AV.sc (Go.Eng.SV.ptr 1 0 0)))] [(Option.some (Go.Eng.HE.mk Bool.true (Go.Eng.HB.rows (Go.Sa.B.i64 l10)))), (Option.some (Go.Eng.HE.mk Bool.false (Go.Eng.HB.exp (Option.some 116) [(Go.Eng.SV.ptr 1 0 0), (Go.Eng.SV.slc 2 Option.none b8)]))), (Option.some (Go.Eng.HE.mk Bool.false (Go.Eng.HB.rows (Go.Sa.B.u8 l11))))])) (funext fun n4 => funext fun b5 => funext fun l5 => ih n4 b5 l5))
def s_impl_yregsText_r_0b1 (N : Nat) {R : Type} (b1 : Bool) (n : Int) (n1 : Int) (l1 : List Int) (b2 : Bool) (l2 : List Int)  (ag1 : Bool → Int → Int → (List Int) → Bool → (List Int) → Option R) (kNb1 : Option R) : Option R :=
  (cond (decide ((n1 < n)))
  (cond ((decide (((0 : Int) ≤ n1))) && (decide ((n1 < (((List.length l1) : Nat) : Int)))))
    (elemK l1 (Int.toNat n1) fun x =>
      (g_impl_PutWord N x fun s =>
      (g_strings_Builder_WriteString_Ww N s b2 l2 fun n2 b3 l3 =>
      (ag1 b1 n (Go.IntKind.wrap Go.IntKind.i64 (n1 + (1 : Int))) l1 b3 l3))))
    none)
  kNb1)
def l_impl_yregsText_r_0b1 (N : Nat) {R : Type} (b1 : Bool) (n : Int) (n1 : Int) (l1 : List Int) (b2 : Bool) (l2 : List Int) (kNb1 : Option R) (kN : (List Int) → Bool → (List Int) → Option R) : Nat → Option R
  | 0 => none
  | f + 1 => s_impl_yregsText_r_0b1 N b1 n n1 l1 b2 l2  (fun b4 n3 n4 l4 b5 l5 => l_impl_yregsText_r_0 N b4 n3 l4 kN f n4 b5 l5) kNb1
def c_impl_yregsText_r_0b1 (N : Nat) {R : Type} (b1 : Bool) (n : Int) (n1 : Int) (l1 : List Int) (b2 : Bool) (l2 : List Int)  (kNb1 : Option R) (kN : (List Int) → Bool → (List Int) → Option R) : Option R := l_impl_yregsText_r_0b1 N b1 n n1 l1 b2 l2 kNb1 kN N 
theorem se_impl_yregsText_r_0b1 (N : Nat) {R : Type} (b1 : Bool) (n : Int) (n1 : Int) (l1 : List Int) (b2 : Bool) (l2 : List Int)  (AG : List (Option AV) → Hp E → Option R) (KL : Ex → List (Option AV) → Hp E → Option R) :
    iterStep (E := E) (O_impl_yregsText_r N) (fun {R} => LI (noIt) 1 17 sl_impl_yregsText_r (R := R)) J_impl_yregsText_r 1 17 0 [3, 6, 7, 8] [3] (body Go.Proofs.Try.f70 0) AG KL [(Option.some (Go.Eng.AV.sc (Go.Eng.SV.ptr 1 0 0))), (Option.some (Go.Eng.AV.sc (Go.Eng.SV.slc 0 Option.none b1))), (Option.some (Go.Eng.AV.sc (Go.Eng.SV.int Go.IntKind.i64 n))), (Option.some (Go.Eng.AV.sc (Go.Eng.SV.int Go.IntKind.i64 n1)))] [(Option.some (Go.Eng.HE.mk Bool.true (Go.Eng.HB.rows (Go.Sa.B.i64 l1)))), (Option.some (Go.Eng.HE.mk Bool.false (Go.Eng.HB.exp (Option.some 116) [Go.Eng.SV.nilp, (Go.Eng.SV.slc 2 Option.none b2)]))), (Option.some (Go.Eng.HE.mk Bool.false (Go.Eng.HB.rows (Go.Sa.B.u8 l2))))] =
      s_impl_yregsText_r_0b1 N b1 n n1 l1 b2 l2  (fun b4 n3 n4 l4 b5 l5 => AG [(Option.some (Go.Eng.AV.sc (Go.Eng.SV.ptr 1 0 0))), (Option.some (Go.Eng.AV.sc (Go.Eng.SV.slc 0 Option.none b4))), (Option.some (Go.Eng.AV.sc (Go.Eng.SV.int Go.IntKind.i64 n3))), (Option.some (Go.Eng.AV.sc (Go.Eng.SV.int Go.IntKind.i64 n4)))] [(Option.some (Go.Eng.HE.mk Bool.true (Go.Eng.HB.rows (Go.Sa.B.i64 l4)))), (Option.some (Go.Eng.HE.mk Bool.false (Go.Eng.HB.exp (Option.some 116) [(Go.Eng.SV.ptr 1 0 0), (Go.Eng.SV.slc 2 Option.none b5)]))), (Option.some (Go.Eng.HE.mk Bool.false (Go.Eng.HB.rows (Go.Sa.B.u8 l5))))]) (KL Go.Eng.Ex.normal [(Option.some (Go.Eng.AV.sc (Go.Eng.SV.ptr 1 0 0)))] [(Option.some (Go.Eng.HE.mk Bool.true (Go.Eng.HB.rows (Go.Sa.B.i64 l1)))), (Option.some (Go.Eng.HE.mk Bool.false (Go.Eng.HB.exp (Option.some 116) [Go.Eng.SV.nilp, (Go.Eng.SV.slc 2 Option.none b2)]))), (Option.some (Go.Eng.HE.mk Bool.false (Go.Eng.HB.rows (Go.Sa.B.u8 l2))))]) := by kernel_rfl
theorem le_impl_yregsText_r_0b1 (N : Nat) {R : Type} (b1 : Bool) (n : Int) (n1 : Int) (l1 : List Int) (b2 : Bool) (l2 : List Int) (KL : Ex → List (Option AV) → Hp E → Option R) : ∀ (f : Nat), iterK (E := E) (O_impl_yregsText_r N) (fun {R} => LI (noIt) 1 17 sl_impl_yregsText_r (R := R)) J_impl_yregsText_r 1 17 0 [3, 6, 7, 8] [3] (body Go.Proofs.Try.f70 0) f [(Option.some (Go.Eng.AV.sc (Go.Eng.SV.ptr 1 0 0))), (Option.some (Go.Eng.AV.sc (Go.Eng.SV.slc 0 Option.none b1))), (Option.some (Go.Eng.AV.sc (Go.Eng.SV.int Go.IntKind.i64 n))), (Option.some (Go.Eng.AV.sc (Go.Eng.SV.int Go.IntKind.i64 n1)))] [(Option.some (Go.Eng.HE.mk Bool.true (Go.Eng.HB.rows (Go.Sa.B.i64 l1)))), (Option.some (Go.Eng.HE.mk Bool.false (Go.Eng.HB.exp (Option.some 116) [Go.Eng.SV.nilp, (Go.Eng.SV.slc 2 Option.none b2)]))), (Option.some (Go.Eng.HE.mk Bool.false (Go.Eng.HB.rows (Go.Sa.B.u8 l2))))] KL = l_impl_yregsText_r_0b1 N b1 n n1 l1 b2 l2 (KL Go.Eng.Ex.normal [(Option.some (Go.Eng.AV.sc (Go.Eng.SV.ptr 1 0 0)))] [(Option.some (Go.Eng.HE.mk Bool.true (Go.Eng.HB.rows (Go.Sa.B.i64 l1)))), (Option.some (Go.Eng.HE.mk Bool.false (Go.Eng.HB.exp (Option.some 116) [Go.Eng.SV.nilp, (Go.Eng.SV.slc 2 Option.none b2)]))), (Option.some (Go.Eng.HE.mk Bool.false (Go.Eng.HB.rows (Go.Sa.B.u8 l2))))]) (fun l12 b9 l13 => KL Go.Eng.Ex.normal [(Option.some (Go.Eng.AV.sc (Go.Eng.SV.ptr 1 0 0)))] [(Option.some (Go.Eng.HE.mk Bool.true (Go.Eng.HB.rows (Go.Sa.B.i64 l12)))), (Option.some (Go.Eng.HE.mk Bool.false (Go.Eng.HB.exp (Option.some 116) [(Go.Eng.SV.ptr 1 0 0), (Go.Eng.SV.slc 2 Option.none b9)]))), (Option.some (Go.Eng.HE.mk Bool.false (Go.Eng.HB.rows (Go.Sa.B.u8 l13))))]) f  := by
  intro f
  induction f with
  | zero => intros; rfl
  | succ f ih =>
    rw [iterK_succ, se_impl_yregsText_r_0b1]
    exact (congrArg (fun z0 => s_impl_yregsText_r_0b1 N b1 n n1 l1 b2 l2  z0 (KL Go.Eng.Ex.normal [(Option.some (Go.Eng.AV.sc (Go.Eng.SV.ptr 1 0 0)))] [(Option.some (Go.Eng.HE.mk Bool.true (Go.Eng.HB.rows (Go.Sa.B.i64 l1)))), (Option.some (Go.Eng.HE.mk Bool.false (Go.Eng.HB.exp (Option.some 116) [Go.Eng.SV.nilp, (Go.Eng.SV.slc 2 Option.none b2)]))), (Option.some (Go.Eng.HE.mk Bool.false (Go.Eng.HB.rows (Go.Sa.B.u8 l2))))])) (funext fun b4 => funext fun n3 => funext fun n4 => funext fun l4 => funext fun b5 => funext fun l5 => le_impl_yregsText_r_0 N b4 n3 l4 KL f n4 b5 l5))
def i_impl_yregsText_r_0 (N : Nat) {R : Type} (vs : List (Option AV)) (H : Hp E) (KL : Ex → List (Option AV) → Hp E → Option R) : Option R :=
  match vs, H with
  | [(Option.some (Go.Eng.AV.sc (Go.Eng.SV.ptr 1 0 0))), (Option.some (Go.Eng.AV.sc (Go.Eng.SV.slc 0 Option.none b1))), (Option.some (Go.Eng.AV.sc (Go.Eng.SV.int Go.IntKind.i64 n))), (Option.some (Go.Eng.AV.sc (Go.Eng.SV.int Go.IntKind.i64 n1)))], [(Option.some (Go.Eng.HE.mk Bool.true (Go.Eng.HB.rows (Go.Sa.B.i64 l1)))), (Option.some (Go.Eng.HE.mk Bool.false (Go.Eng.HB.exp (Option.some 116) [Go.Eng.SV.nilp, (Go.Eng.SV.slc 2 Option.none b2)]))), (Option.some (Go.Eng.HE.mk Bool.false (Go.Eng.HB.rows (Go.Sa.B.u8 l2))))] => c_impl_yregsText_r_0b1 N b1 n n1 l1 b2 l2  (KL Go.Eng.Ex.normal [(Option.some (Go.Eng.AV.sc (Go.Eng.SV.ptr 1 0 0)))] [(Option.some (Go.Eng.HE.mk Bool.true (Go.Eng.HB.rows (Go.Sa.B.i64 l1)))), (Option.some (Go.Eng.HE.mk Bool.false (Go.Eng.HB.exp (Option.some 116) [Go.Eng.SV.nilp, (Go.Eng.SV.slc 2 Option.none b2)]))), (Option.some (Go.Eng.HE.mk Bool.false (Go.Eng.HB.rows (Go.Sa.B.u8 l2))))]) (fun l14 b10 l15 => KL Go.Eng.Ex.normal [(Option.some (Go.Eng.AV.sc (Go.Eng.SV.ptr 1 0 0)))] [(Option.some (Go.Eng.HE.mk Bool.true (Go.Eng.HB.rows (Go.Sa.B.i64 l14)))), (Option.some (Go.Eng.HE.mk Bool.false (Go.Eng.HB.exp (Option.some 116) [(Go.Eng.SV.ptr 1 0 0), (Go.Eng.SV.slc 2 Option.none b10)]))), (Option.some (Go.Eng.HE.mk Bool.false (Go.Eng.HB.rows (Go.Sa.B.u8 l15))))])
  | _, _ => none
noncomputable def IT_impl_yregsText_r_0 (N : Nat) : Its E := addIt 0 (i_impl_yregsText_r_0 N) (noIt)
theorem IT_impl_yregsText_r_0_ok (N : Nat) : ItOk (IT_impl_yregsText_r_0 N) 1 17 sl_impl_yregsText_r (lsB Go.Proofs.Try.f70 [0]) :=
  addItB_ok (inner := []) ok (O_impl_yregsText_r_ok N) (jn_ok _ _ _) (noIt_ok) rfl (by kernel_rfl) rfl fun vs H KL r h => by
    unfold i_impl_yregsText_r_0 at h
    split at h
    · exact ⟨_, (le_impl_yregsText_r_0b1 N _ _ _ _ _ _ KL N).trans h⟩
    · cases h
def g_impl_yregsText_r (N : Nat) {R : Type} (b : Bool) (l : List Int) (k : ByteArray → (List Int) → Option R) : Option R :=
  (c_impl_yregsText_r_0b1 N b (((List.length l) : Nat) : Int) (0 : Int) l Bool.true [] (
  (k (ByteArray.mk (List.toArray [])) l)) (fun l7 b7 l8 =>
  (cond b7
  (k (ByteArray.mk (List.toArray [])) l7)
  (cond ((Nat.blt 0 (List.length l8)) && (Nat.ble (List.length l8) 9223372036854775807))
    (k (Go.Eng.toBytes l8) l7)
    none))))
theorem e_impl_yregsText_r (N : Nat) {R : Type} (b : Bool) (l : List Int) (K : AV → Hp E → Option R) :
    runFnI (E := E) (O_impl_yregsText_r N) (IT_impl_yregsText_r_0 N) sl_impl_yregsText_r J_impl_yregsText_r Go.Proofs.Try.f70 [(Go.Eng.AV.sc (Go.Eng.SV.slc 0 Option.none b))] [(Option.some (Go.Eng.HE.mk Bool.true (Go.Eng.HB.rows (Go.Sa.B.i64 l))))] K =
      g_impl_yregsText_r N b l (fun s2 l9 => K (Go.Eng.AV.sc (Go.Eng.SV.str s2)) [(Option.some (Go.Eng.HE.mk Bool.true (Go.Eng.HB.rows (Go.Sa.B.i64 l9))))]) := by kernel_rfl
def o_impl_yregsText_r (N : Nat) {R : Type} (args : List AV) (H : Hp E) (K : AV → Hp E → Option R) : Option R :=
  match args, H with
  | [(Go.Eng.AV.sc (Go.Eng.SV.slc 0 Option.none b))], [(Option.some (Go.Eng.HE.mk Bool.true (Go.Eng.HB.rows (Go.Sa.B.i64 l))))] => g_impl_yregsText_r N b l (fun s2 l9 => K (Go.Eng.AV.sc (Go.Eng.SV.str s2)) [(Option.some (Go.Eng.HE.mk Bool.true (Go.Eng.HB.rows (Go.Sa.B.i64 l9))))])
  | _, _ => none
theorem o_impl_yregsText_r_ok (N : Nat) : FnOk E 70 (o_impl_yregsText_r N) := by
  intro R args H K r h
  unfold o_impl_yregsText_r at h
  dsimp only at h
  split at h
  · exact fnB_ok (ids := [0]) (top := [0]) ok (O_impl_yregsText_r_ok N) (jn_ok _ _ _) Go.Proofs.Try.func70 (by kernel_rfl) (IT := IT_impl_yregsText_r_0 N) (sl := sl_impl_yregsText_r) (J := J_impl_yregsText_r) (K := K) (H := [(Option.some (Go.Eng.HE.mk Bool.true (Go.Eng.HB.rows (Go.Sa.B.i64 _))))]) (IT_impl_yregsText_r_0_ok N) (by kernel_rfl) rfl ((e_impl_yregsText_r N _ _ K).trans h)
  · cases h
/-! ### loop.example/g00038/impl.yquoteE -/
abbrev sl_impl_yquoteE_r : SlotT := []
abbrev J_impl_yquoteE_r : JT := jn [] [] []
noncomputable def O_impl_yquoteE_r (N : Nat) : Orc E := addFn 67 (o_impl_ymix N) (addFn 68 (o_impl_yjoin_w N) (addFn 70 (o_impl_yregsText_r N) (addFn 69 (o_impl_PutWord N) (noFn))))
theorem O_impl_yquoteE_r_ok (N : Nat) : OrcOk (O_impl_yquoteE_r N) := addFn_ok (o_impl_ymix_ok N) (addFn_ok (o_impl_yjoin_w_ok N) (addFn_ok (o_impl_yregsText_r_ok N) (addFn_ok (o_impl_PutWord_ok N) (noFn_ok))))
def g_impl_yquoteE_r (N : Nat) {R : Type} (n : Int) (s : ByteArray) (b : Bool) (l : List Int) (k : Int → Option R) : Option R :=
  (g_impl_PutWord N n fun s1 =>
  (g_impl_yregsText_r N b l fun s2 l1 =>
  (g_impl_yjoin_w N Bool.false [s1, s2, s] fun s3 =>
  (g_impl_ymix N s3 (42 : Int) fun n1 =>
  (k (Int.tmod n1 (1073741381 : Int)))))))
theorem e_impl_yquoteE_r (N : Nat) {R : Type} (n : Int) (s : ByteArray) (b : Bool) (l : List Int) (K : AV → Hp E → Option R) :
    runFnI (E := E) (O_impl_yquoteE_r N) (noIt) sl_impl_yquoteE_r J_impl_yquoteE_r Go.Proofs.Try.f72 [(Go.Eng.AV.sc (Go.Eng.SV.int Go.IntKind.i64 n)), (Go.Eng.AV.sc (Go.Eng.SV.str s)), (Go.Eng.AV.sc (Go.Eng.SV.slc 0 Option.none b))] [(Option.some (Go.Eng.HE.mk Bool.true (Go.Eng.HB.rows (Go.Sa.B.i64 l))))] K =
      g_impl_yquoteE_r N n s b l (fun n2 => K (Go.Eng.AV.sc (Go.Eng.SV.int Go.IntKind.i64 n2)) [(Option.some (Go.Eng.HE.mk Bool.true (Go.Eng.HB.rows (Go.Sa.B.i64 l))))]) := by kernel_rfl
def o_impl_yquoteE_r (N : Nat) {R : Type} (args : List AV) (H : Hp E) (K : AV → Hp E → Option R) : Option R :=
  match args, H with
  | [(Go.Eng.AV.sc (Go.Eng.SV.int Go.IntKind.i64 n)), (Go.Eng.AV.sc (Go.Eng.SV.str s)), (Go.Eng.AV.sc (Go.Eng.SV.slc 0 Option.none b))], [(Option.some (Go.Eng.HE.mk Bool.true (Go.Eng.HB.rows (Go.Sa.B.i64 l))))] => g_impl_yquoteE_r N n s b l (fun n2 => K (Go.Eng.AV.sc (Go.Eng.SV.int Go.IntKind.i64 n2)) [(Option.some (Go.Eng.HE.mk Bool.true (Go.Eng.HB.rows (Go.Sa.B.i64 l))))])
  | _, _ => none
theorem o_impl_yquoteE_r_ok (N : Nat) : FnOk E 72 (o_impl_yquoteE_r N) := by
  intro R args H K r h
  unfold o_impl_yquoteE_r at h
  dsimp only at h
  split at h
  · exact fnB_ok (ids := []) (top := []) ok (O_impl_yquoteE_r_ok N) (jn_ok _ _ _) Go.Proofs.Try.func72 (by kernel_rfl) (IT := noIt) (sl := sl_impl_yquoteE_r) (J := J_impl_yquoteE_r) (K := K) (H := [(Option.some (Go.Eng.HE.mk Bool.true (Go.Eng.HB.rows (Go.Sa.B.i64 _))))]) (noIt_ok) (by kernel_rfl) rfl ((e_impl_yquoteE_r N _ _ _ _ K).trans h)
  · cases h
end Go.Sa
