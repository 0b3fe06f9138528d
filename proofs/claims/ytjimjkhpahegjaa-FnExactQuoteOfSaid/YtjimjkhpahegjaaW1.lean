import Derived.Test.YtjimjkhpahegjaaSpec
import Derived.Test.YtjimjkhpahegjaaPLb
import Derived.Test.YtjimjkhpahegjaaW0
set_option linter.all false
namespace Go.Sa
open Go Go.Eng Go.Proofs
set_option maxRecDepth 100000
/-! ### loop.example/g00038/impl.ypower -/
abbrev sl_impl_ypower : SlotT := [(0, ([0, 1, 5], [5]))]
abbrev J_impl_ypower : JT := jn [] [(14, [(5, .i .i64)])] []
noncomputable def O_impl_ypower (N : Nat) : Orc E := noFn
theorem O_impl_ypower_ok (N : Nat) : OrcOk (O_impl_ypower N) := noFn_ok
def s_impl_ypower_0 (N : Nat) {R : Type}  (n2 : Int) (n3 : Int) (n4 : Int) (ag : Int → Int → Int → Option R)  (kN : Int → Option R) : Option R :=
  (cond (decide ((n3 > (0 : Int))))
  (oK (cond ((Go.IntKind.wrap Go.IntKind.i64 (((BitVec.toNat ((BitVec.ofInt 64 n3) &&& (BitVec.ofInt 64 (1 : Int)))) : Nat) : Int)) == (1 : Int))
      (some (Int.tmod (Go.IntKind.wrap Go.IntKind.i64 (n4 * n2)) (2147482763 : Int)))
      (some n4)) fun j =>
    (ag (Int.tmod (Go.IntKind.wrap Go.IntKind.i64 (n2 * n2)) (2147482763 : Int)) (Int.fdiv n3 (2 : Int)) j))
  (kN n4))
def l_impl_ypower_0 (N : Nat) {R : Type}  (kN : Int → Option R) : Nat → Int → Int → Int → Option R
  | 0, _, _, _ => none
  | f + 1, n2, n3, n4 => s_impl_ypower_0 N  n2 n3 n4 (fun n2 n3 n4 => l_impl_ypower_0 N  kN f n2 n3 n4)  kN
def c_impl_ypower_0 (N : Nat) {R : Type}  (n2 : Int) (n3 : Int) (n4 : Int) (kN : Int → Option R) : Option R := l_impl_ypower_0 N  kN N n2 n3 n4
theorem se_impl_ypower_0 (N : Nat) {R : Type}  (n2 : Int) (n3 : Int) (n4 : Int) (AG : List (Option AV) → Hp E → Option R) (KL : Ex → List (Option AV) → Hp E → Option R) :
    iterStep (E := E) (O_impl_ypower N) (fun {R} => LI (noIt) 0 24 sl_impl_ypower (R := R)) J_impl_ypower 0 24 0 [0, 1, 5] [5] (body Go.Proofs.Try.f132 0) AG KL [(Option.some (Go.Eng.AV.sc (Go.Eng.SV.int Go.IntKind.i64 n2))), (Option.some (Go.Eng.AV.sc (Go.Eng.SV.int Go.IntKind.i64 n3))), (Option.some (Go.Eng.AV.sc (Go.Eng.SV.int Go.IntKind.i64 n4)))] [] =
      s_impl_ypower_0 N  n2 n3 n4 (fun n2 n3 n4 => AG [(Option.some (Go.Eng.AV.sc (Go.Eng.SV.int Go.IntKind.i64 n2))), (Option.some (Go.Eng.AV.sc (Go.Eng.SV.int Go.IntKind.i64 n3))), (Option.some (Go.Eng.AV.sc (Go.Eng.SV.int Go.IntKind.i64 n4)))] [])  (fun n7 => KL Go.Eng.Ex.normal [(Option.some (Go.Eng.AV.sc (Go.Eng.SV.int Go.IntKind.i64 n7)))] []) := by kernel_rfl
theorem le_impl_ypower_0 (N : Nat) {R : Type}  (KL : Ex → List (Option AV) → Hp E → Option R) : ∀ (f : Nat), ∀ (n2 : Int) (n3 : Int) (n4 : Int), iterK (E := E) (O_impl_ypower N) (fun {R} => LI (noIt) 0 24 sl_impl_ypower (R := R)) J_impl_ypower 0 24 0 [0, 1, 5] [5] (body Go.Proofs.Try.f132 0) f [(Option.some (Go.Eng.AV.sc (Go.Eng.SV.int Go.IntKind.i64 n2))), (Option.some (Go.Eng.AV.sc (Go.Eng.SV.int Go.IntKind.i64 n3))), (Option.some (Go.Eng.AV.sc (Go.Eng.SV.int Go.IntKind.i64 n4)))] [] KL = l_impl_ypower_0 N  (fun n7 => KL Go.Eng.Ex.normal [(Option.some (Go.Eng.AV.sc (Go.Eng.SV.int Go.IntKind.i64 n7)))] []) f n2 n3 n4 := by
  intro f
  induction f with
  | zero => intros; rfl
  | succ f ih =>
    intro n2 n3 n4
    rw [iterK_succ, se_impl_ypower_0]
    exact (congrArg (fun z0 => s_impl_ypower_0 N  n2 n3 n4 z0 (fun n7 => KL Go.Eng.Ex.normal [(Option.some (Go.Eng.AV.sc (Go.Eng.SV.int Go.IntKind.i64 n7)))] [])) (funext fun n2 => funext fun n3 => funext fun n4 => ih n2 n3 n4))
def i_impl_ypower_0 (N : Nat) {R : Type} (vs : List (Option AV)) (H : Hp E) (KL : Ex → List (Option AV) → Hp E → Option R) : Option R :=
  match vs, H with
  | [(Option.some (Go.Eng.AV.sc (Go.Eng.SV.int Go.IntKind.i64 n2))), (Option.some (Go.Eng.AV.sc (Go.Eng.SV.int Go.IntKind.i64 n3))), (Option.some (Go.Eng.AV.sc (Go.Eng.SV.int Go.IntKind.i64 n4)))], [] => c_impl_ypower_0 N  n2 n3 n4 (fun n8 => KL Go.Eng.Ex.normal [(Option.some (Go.Eng.AV.sc (Go.Eng.SV.int Go.IntKind.i64 n8)))] [])
  | _, _ => none
noncomputable def IT_impl_ypower_0 (N : Nat) : Its E := addIt 0 (i_impl_ypower_0 N) (noIt)
theorem IT_impl_ypower_0_ok (N : Nat) : ItOk (IT_impl_ypower_0 N) 0 24 sl_impl_ypower (lsB Go.Proofs.Try.f132 [0]) :=
  addItB_ok (inner := []) ok (O_impl_ypower_ok N) (jn_ok _ _ _) (noIt_ok) rfl (by kernel_rfl) rfl fun vs H KL r h => by
    unfold i_impl_ypower_0 at h
    split at h
    · exact ⟨_, (le_impl_ypower_0 N KL N _ _ _).trans h⟩
    · cases h
def g_impl_ypower (N : Nat) {R : Type} (n : Int) (n1 : Int) (k : Int → Option R) : Option R :=
  (c_impl_ypower_0 N (Int.tmod n (2147482763 : Int)) n1 (1 : Int) fun n5 =>
  (k n5))
theorem e_impl_ypower (N : Nat) {R : Type} (n : Int) (n1 : Int) (K : AV → Hp E → Option R) :
    runFnI (E := E) (O_impl_ypower N) (IT_impl_ypower_0 N) sl_impl_ypower J_impl_ypower Go.Proofs.Try.f132 [(Go.Eng.AV.sc (Go.Eng.SV.int Go.IntKind.i64 n)), (Go.Eng.AV.sc (Go.Eng.SV.int Go.IntKind.i64 n1))] [] K =
      g_impl_ypower N n n1 (fun n6 => K (Go.Eng.AV.sc (Go.Eng.SV.int Go.IntKind.i64 n6)) []) := by kernel_rfl
def o_impl_ypower (N : Nat) {R : Type} (args : List AV) (H : Hp E) (K : AV → Hp E → Option R) : Option R :=
  match args, H with
  | [(Go.Eng.AV.sc (Go.Eng.SV.int Go.IntKind.i64 n)), (Go.Eng.AV.sc (Go.Eng.SV.int Go.IntKind.i64 n1))], [] => g_impl_ypower N n n1 (fun n6 => K (Go.Eng.AV.sc (Go.Eng.SV.int Go.IntKind.i64 n6)) [])
  | _, _ => none
theorem o_impl_ypower_ok (N : Nat) : FnOk E 132 (o_impl_ypower N) := by
  intro R args H K r h
  unfold o_impl_ypower at h
  dsimp only at h
  split at h
  · exact fnB_ok (ids := [0]) (top := [0]) ok (O_impl_ypower_ok N) (jn_ok _ _ _) Go.Proofs.Try.func132 (by kernel_rfl) (IT := IT_impl_ypower_0 N) (sl := sl_impl_ypower) (J := J_impl_ypower) (K := K) (H := []) (IT_impl_ypower_0_ok N) (by kernel_rfl) rfl ((e_impl_ypower N _ _ K).trans h)
  · cases h
/-! ### loop.example/g00038/impl.yquoteE -/
abbrev sl_impl_yquoteE_w : SlotT := []
abbrev J_impl_yquoteE_w : JT := jn [] [] []
noncomputable def O_impl_yquoteE_w (N : Nat) : Orc E := addFn 92 (o_impl_ymix N) (addFn 89 (o_impl_yjoin_w N) (addFn 131 (o_impl_yregsText_w N) (addFn 91 (o_impl_PutWord N) (noFn))))
theorem O_impl_yquoteE_w_ok (N : Nat) : OrcOk (O_impl_yquoteE_w N) := addFn_ok (o_impl_ymix_ok N) (addFn_ok (o_impl_yjoin_w_ok N) (addFn_ok (o_impl_yregsText_w_ok N) (addFn_ok (o_impl_PutWord_ok N) (noFn_ok))))
def g_impl_yquoteE_w (N : Nat) {R : Type} (n : Int) (s : ByteArray) (b : Bool) (l : List Int) (k : Int → (List Int) → Option R) : Option R :=
  (g_impl_PutWord N n fun s1 =>
  (g_impl_yregsText_w N b l fun s2 l1 =>
  (g_impl_yjoin_w N Bool.false [s1, s2, s] fun s3 =>
  (g_impl_ymix N s3 (42 : Int) fun n1 =>
  (k (Int.tmod n1 (1073741381 : Int)) l1)))))
theorem e_impl_yquoteE_w (N : Nat) {R : Type} (n : Int) (s : ByteArray) (b : Bool) (l : List Int) (K : AV → Hp E → Option R) :
    runFnI (E := E) (O_impl_yquoteE_w N) (noIt) sl_impl_yquoteE_w J_impl_yquoteE_w Go.Proofs.Try.f133 [(Go.Eng.AV.sc (Go.Eng.SV.int Go.IntKind.i64 n)), (Go.Eng.AV.sc (Go.Eng.SV.str s)), (Go.Eng.AV.sc (Go.Eng.SV.slc 0 Option.none b))] [(Option.some (Go.Eng.HE.mk Bool.false (Go.Eng.HB.rows (Go.Sa.B.i64 l))))] K =
      g_impl_yquoteE_w N n s b l (fun n2 l2 => K (Go.Eng.AV.sc (Go.Eng.SV.int Go.IntKind.i64 n2)) [(Option.some (Go.Eng.HE.mk Bool.false (Go.Eng.HB.rows (Go.Sa.B.i64 l2))))]) := by kernel_rfl
def o_impl_yquoteE_w (N : Nat) {R : Type} (args : List AV) (H : Hp E) (K : AV → Hp E → Option R) : Option R :=
  match args, H with
  | [(Go.Eng.AV.sc (Go.Eng.SV.int Go.IntKind.i64 n)), (Go.Eng.AV.sc (Go.Eng.SV.str s)), (Go.Eng.AV.sc (Go.Eng.SV.slc 0 Option.none b))], [(Option.some (Go.Eng.HE.mk Bool.false (Go.Eng.HB.rows (Go.Sa.B.i64 l))))] => g_impl_yquoteE_w N n s b l (fun n2 l2 => K (Go.Eng.AV.sc (Go.Eng.SV.int Go.IntKind.i64 n2)) [(Option.some (Go.Eng.HE.mk Bool.false (Go.Eng.HB.rows (Go.Sa.B.i64 l2))))])
  | _, _ => none
theorem o_impl_yquoteE_w_ok (N : Nat) : FnOk E 133 (o_impl_yquoteE_w N) := by
  intro R args H K r h
  unfold o_impl_yquoteE_w at h
  dsimp only at h
  split at h
  · exact fnB_ok (ids := []) (top := []) ok (O_impl_yquoteE_w_ok N) (jn_ok _ _ _) Go.Proofs.Try.func133 (by kernel_rfl) (IT := noIt) (sl := sl_impl_yquoteE_w) (J := J_impl_yquoteE_w) (K := K) (H := [(Option.some (Go.Eng.HE.mk Bool.false (Go.Eng.HB.rows (Go.Sa.B.i64 _))))]) (noIt_ok) (by kernel_rfl) rfl ((e_impl_yquoteE_w N _ _ _ _ K).trans h)
  · cases h
/-! ### loop.example/g00038/impl.QuoteOf -/
abbrev sl_impl_QuoteOf_w : SlotT := []
abbrev J_impl_QuoteOf_w : JT := jn [(1, [(21, .b)])] [] []
noncomputable def O_impl_QuoteOf_w (N : Nat) : Orc E := addFn 133 (o_impl_yquoteE_w N) (addFn 132 (o_impl_ypower N) (addFn 92 (o_impl_ymix N) (addFn 89 (o_impl_yjoin_w N) (addFn 131 (o_impl_yregsText_w N) (addFn 91 (o_impl_PutWord N) (addFn 130 (o_impl_yregsOk_r N) (addFn 129 (o_impl_ylongKey_w N) (addFn 128 (o_impl_ysecretOk N) (noFn)))))))))
theorem O_impl_QuoteOf_w_ok (N : Nat) : OrcOk (O_impl_QuoteOf_w N) := addFn_ok (o_impl_yquoteE_w_ok N) (addFn_ok (o_impl_ypower_ok N) (addFn_ok (o_impl_ymix_ok N) (addFn_ok (o_impl_yjoin_w_ok N) (addFn_ok (o_impl_yregsText_w_ok N) (addFn_ok (o_impl_PutWord_ok N) (addFn_ok (o_impl_yregsOk_r_ok N) (addFn_ok (o_impl_ylongKey_w_ok N) (addFn_ok (o_impl_ysecretOk_ok N) (noFn_ok)))))))))
def g_impl_QuoteOf_w (N : Nat) {R : Type} (n : Int) (s : ByteArray) (b : Bool) (l : List Int) (k : Int → Int → (List Int) → Option R) : Option R :=
  (oK (g_impl_ysecretOk N n fun b1 =>
    (cond (!b1)
    (some Bool.true)
    (g_impl_ylongKey_w N Bool.false [s] fun b2 =>
      (cond b2
      (some Bool.true)
      (g_impl_yregsOk_r N b l fun b3 =>
        (some (!b3))))))) fun j =>
  (cond j
  (k (0 : Int) (0 : Int) l)
  (g_impl_PutWord N n fun s1 =>
    (g_impl_yregsText_w N b l fun s2 l1 =>
    (g_impl_yjoin_w N Bool.false [s1, s2, s] fun s3 =>
    (g_impl_ymix N s3 (41 : Int) fun n1 =>
    (g_impl_ypower N (4 : Int) (Go.IntKind.wrap Go.IntKind.i64 ((1 : Int) + (Int.tmod n1 (1073741380 : Int)))) fun n2 =>
    (g_impl_yquoteE_w N n2 s b l1 fun n3 l2 =>
    (k n2 (Int.tmod (Go.IntKind.wrap Go.IntKind.i64 ((Go.IntKind.wrap Go.IntKind.i64 ((1 : Int) + (Int.tmod n1 (1073741380 : Int)))) + (Go.IntKind.wrap Go.IntKind.i64 (n3 * n)))) (1073741381 : Int)) l2)))))))))
theorem e_impl_QuoteOf_w (N : Nat) {R : Type} (n : Int) (s : ByteArray) (b : Bool) (l : List Int) (K : AV → Hp E → Option R) :
    runFnI (E := E) (O_impl_QuoteOf_w N) (noIt) sl_impl_QuoteOf_w J_impl_QuoteOf_w Go.Proofs.Try.f68 [(Go.Eng.AV.sc (Go.Eng.SV.int Go.IntKind.i64 n)), (Go.Eng.AV.sc (Go.Eng.SV.str s)), (Go.Eng.AV.sc (Go.Eng.SV.slc 0 Option.none b))] [(Option.some (Go.Eng.HE.mk Bool.false (Go.Eng.HB.rows (Go.Sa.B.i64 l))))] K =
      g_impl_QuoteOf_w N n s b l (fun n4 n5 l3 => K (Go.Eng.AV.agg [(Go.Eng.SV.int Go.IntKind.i64 n4), (Go.Eng.SV.int Go.IntKind.i64 n5)]) [(Option.some (Go.Eng.HE.mk Bool.false (Go.Eng.HB.rows (Go.Sa.B.i64 l3))))]) := by kernel_rfl
def o_impl_QuoteOf_w (N : Nat) {R : Type} (args : List AV) (H : Hp E) (K : AV → Hp E → Option R) : Option R :=
  match args, H with
  | [(Go.Eng.AV.sc (Go.Eng.SV.int Go.IntKind.i64 n)), (Go.Eng.AV.sc (Go.Eng.SV.str s)), (Go.Eng.AV.sc (Go.Eng.SV.slc 0 Option.none b))], [(Option.some (Go.Eng.HE.mk Bool.false (Go.Eng.HB.rows (Go.Sa.B.i64 l))))] => g_impl_QuoteOf_w N n s b l (fun n4 n5 l3 => K (Go.Eng.AV.agg [(Go.Eng.SV.int Go.IntKind.i64 n4), (Go.Eng.SV.int Go.IntKind.i64 n5)]) [(Option.some (Go.Eng.HE.mk Bool.false (Go.Eng.HB.rows (Go.Sa.B.i64 l3))))])
  | _, _ => none
theorem o_impl_QuoteOf_w_ok (N : Nat) : FnOk E 68 (o_impl_QuoteOf_w N) := by
  intro R args H K r h
  unfold o_impl_QuoteOf_w at h
  dsimp only at h
  split at h
  · exact fnB_ok (ids := []) (top := []) ok (O_impl_QuoteOf_w_ok N) (jn_ok _ _ _) Go.Proofs.Try.func68 (by kernel_rfl) (IT := noIt) (sl := sl_impl_QuoteOf_w) (J := J_impl_QuoteOf_w) (K := K) (H := [(Option.some (Go.Eng.HE.mk Bool.false (Go.Eng.HB.rows (Go.Sa.B.i64 _))))]) (noIt_ok) (by kernel_rfl) rfl ((e_impl_QuoteOf_w N _ _ _ _ K).trans h)
  · cases h
/-! ### loop.example/g00038/laws.eqQuote -/
abbrev sl_laws_eqQuote : SlotT := []
abbrev J_laws_eqQuote : JT := jn [] [] []
noncomputable def O_laws_eqQuote (N : Nat) : Orc E := noFn
theorem O_laws_eqQuote_ok (N : Nat) : OrcOk (O_laws_eqQuote N) := noFn_ok
def g_laws_eqQuote (N : Nat) {R : Type} (n : Int) (n1 : Int) (n2 : Int) (n3 : Int) (k : Bool → Option R) : Option R :=
  (cond (n != n2)
  (k Bool.false)
  (cond (n1 != n3)
    (k Bool.false)
    (k Bool.true)))
theorem e_laws_eqQuote (N : Nat) {R : Type} (n : Int) (n1 : Int) (n2 : Int) (n3 : Int) (K : AV → Hp E → Option R) :
    runFnI (E := E) (O_laws_eqQuote N) (noIt) sl_laws_eqQuote J_laws_eqQuote Go.Proofs.Try.f69 [(Go.Eng.AV.agg [(Go.Eng.SV.int Go.IntKind.i64 n), (Go.Eng.SV.int Go.IntKind.i64 n1)]), (Go.Eng.AV.agg [(Go.Eng.SV.int Go.IntKind.i64 n2), (Go.Eng.SV.int Go.IntKind.i64 n3)])] [] K =
      g_laws_eqQuote N n n1 n2 n3 (fun b => K (Go.Eng.AV.sc (Go.Eng.SV.bool b)) []) := by kernel_rfl
def o_laws_eqQuote (N : Nat) {R : Type} (args : List AV) (H : Hp E) (K : AV → Hp E → Option R) : Option R :=
  match args, H with
  | [(Go.Eng.AV.agg [(Go.Eng.SV.int Go.IntKind.i64 n), (Go.Eng.SV.int Go.IntKind.i64 n1)]), (Go.Eng.AV.agg [(Go.Eng.SV.int Go.IntKind.i64 n2), (Go.Eng.SV.int Go.IntKind.i64 n3)])], [] => g_laws_eqQuote N n n1 n2 n3 (fun b => K (Go.Eng.AV.sc (Go.Eng.SV.bool b)) [])
  | _, _ => none
theorem o_laws_eqQuote_ok (N : Nat) : FnOk E 69 (o_laws_eqQuote N) := by
  intro R args H K r h
  unfold o_laws_eqQuote at h
  dsimp only at h
  split at h
  · exact fnB_ok (ids := []) (top := []) ok (O_laws_eqQuote_ok N) (jn_ok _ _ _) Go.Proofs.Try.func69 (by kernel_rfl) (IT := noIt) (sl := sl_laws_eqQuote) (J := J_laws_eqQuote) (K := K) (H := []) (noIt_ok) (by kernel_rfl) rfl ((e_laws_eqQuote N _ _ _ _ K).trans h)
  · cases h
/-! ### loop.example/g00038/laws.eqInt64S -/
abbrev sl_laws_eqInt64S_ww : SlotT := [(0, ([0, 1, 5], [4]))]
abbrev J_laws_eqInt64S_ww : JT := jn [] [] []
noncomputable def O_laws_eqInt64S_ww (N : Nat) : Orc E := noFn
theorem O_laws_eqInt64S_ww_ok (N : Nat) : OrcOk (O_laws_eqInt64S_ww N) := noFn_ok
def s_laws_eqInt64S_ww_0 (N : Nat) {R : Type} (b2 : Bool) (b3 : Bool) (l2 : List Int) (l3 : List Int) (n : Int) (ag : Int → Option R)  (kR : Option R) (kN : Option R) : Option R :=
  (cond (decide ((n < (((List.length l2) : Nat) : Int))))
  (cond ((decide (((0 : Int) ≤ n))) && (decide ((n < (((List.length l2) : Nat) : Int)))))
    (elemK l2 (Int.toNat n) fun x =>
      (cond ((decide (((0 : Int) ≤ n))) && (decide ((n < (((List.length l3) : Nat) : Int)))))
      (elemK l3 (Int.toNat n) fun x1 =>
        (cond (x != x1)
        kR
        (ag (Go.IntKind.wrap Go.IntKind.i64 (n + (1 : Int))))))
      none))
    none)
  kN)
def l_laws_eqInt64S_ww_0 (N : Nat) {R : Type} (b2 : Bool) (b3 : Bool) (l2 : List Int) (l3 : List Int) (kR : Option R) (kN : Option R) : Nat → Int → Option R
  | 0, _ => none
  | f + 1, n => s_laws_eqInt64S_ww_0 N b2 b3 l2 l3 n (fun n => l_laws_eqInt64S_ww_0 N b2 b3 l2 l3 kR kN f n)  kR kN
def c_laws_eqInt64S_ww_0 (N : Nat) {R : Type} (b2 : Bool) (b3 : Bool) (l2 : List Int) (l3 : List Int) (n : Int) (kR : Option R) (kN : Option R) : Option R := l_laws_eqInt64S_ww_0 N b2 b3 l2 l3 kR kN N n
theorem se_laws_eqInt64S_ww_0 (N : Nat) {R : Type} (b2 : Bool) (b3 : Bool) (l2 : List Int) (l3 : List Int) (n : Int) (AG : List (Option AV) → Hp E → Option R) (KL : Ex → List (Option AV) → Hp E → Option R) :
    iterStep (E := E) (O_laws_eqInt64S_ww N) (fun {R} => LI (noIt) 2 26 sl_laws_eqInt64S_ww (R := R)) J_laws_eqInt64S_ww 2 26 0 [0, 1, 5] [4] (body Go.Proofs.Try.f70 0) AG KL [(Option.some (Go.Eng.AV.sc (Go.Eng.SV.slc 0 Option.none b2))), (Option.some (Go.Eng.AV.sc (Go.Eng.SV.slc 1 Option.none b3))), (Option.some (Go.Eng.AV.sc (Go.Eng.SV.int Go.IntKind.i64 n)))] [(Option.some (Go.Eng.HE.mk Bool.false (Go.Eng.HB.rows (Go.Sa.B.i64 l2)))), (Option.some (Go.Eng.HE.mk Bool.false (Go.Eng.HB.rows (Go.Sa.B.i64 l3))))] =
      s_laws_eqInt64S_ww_0 N b2 b3 l2 l3 n (fun n => AG [(Option.some (Go.Eng.AV.sc (Go.Eng.SV.slc 0 Option.none b2))), (Option.some (Go.Eng.AV.sc (Go.Eng.SV.slc 1 Option.none b3))), (Option.some (Go.Eng.AV.sc (Go.Eng.SV.int Go.IntKind.i64 n)))] [(Option.some (Go.Eng.HE.mk Bool.false (Go.Eng.HB.rows (Go.Sa.B.i64 l2)))), (Option.some (Go.Eng.HE.mk Bool.false (Go.Eng.HB.rows (Go.Sa.B.i64 l3))))])  (KL Go.Eng.Ex.ret [(Option.some (Go.Eng.AV.sc (Go.Eng.SV.bool Bool.false)))] [(Option.some (Go.Eng.HE.mk Bool.false (Go.Eng.HB.rows (Go.Sa.B.i64 l2)))), (Option.some (Go.Eng.HE.mk Bool.false (Go.Eng.HB.rows (Go.Sa.B.i64 l3))))]) (KL Go.Eng.Ex.normal [Option.none] [(Option.some (Go.Eng.HE.mk Bool.false (Go.Eng.HB.rows (Go.Sa.B.i64 l2)))), (Option.some (Go.Eng.HE.mk Bool.false (Go.Eng.HB.rows (Go.Sa.B.i64 l3))))]) := by kernel_rfl
theorem le_laws_eqInt64S_ww_0 (N : Nat) {R : Type} (b2 : Bool) (b3 : Bool) (l2 : List Int) (l3 : List Int) (KL : Ex → List (Option AV) → Hp E → Option R) : ∀ (f : Nat), ∀ (n : Int), iterK (E := E) (O_laws_eqInt64S_ww N) (fun {R} => LI (noIt) 2 26 sl_laws_eqInt64S_ww (R := R)) J_laws_eqInt64S_ww 2 26 0 [0, 1, 5] [4] (body Go.Proofs.Try.f70 0) f [(Option.some (Go.Eng.AV.sc (Go.Eng.SV.slc 0 Option.none b2))), (Option.some (Go.Eng.AV.sc (Go.Eng.SV.slc 1 Option.none b3))), (Option.some (Go.Eng.AV.sc (Go.Eng.SV.int Go.IntKind.i64 n)))] [(Option.some (Go.Eng.HE.mk Bool.false (Go.Eng.HB.rows (Go.Sa.B.i64 l2)))), (Option.some (Go.Eng.HE.mk Bool.false (Go.Eng.HB.rows (Go.Sa.B.i64 l3))))] KL = l_laws_eqInt64S_ww_0 N b2 b3 l2 l3 (KL Go.Eng.Ex.ret [(Option.some (Go.Eng.AV.sc (Go.Eng.SV.bool Bool.false)))] [(Option.some (Go.Eng.HE.mk Bool.false (Go.Eng.HB.rows (Go.Sa.B.i64 l2)))), (Option.some (Go.Eng.HE.mk Bool.false (Go.Eng.HB.rows (Go.Sa.B.i64 l3))))]) (KL Go.Eng.Ex.normal [Option.none] [(Option.some (Go.Eng.HE.mk Bool.false (Go.Eng.HB.rows (Go.Sa.B.i64 l2)))), (Option.some (Go.Eng.HE.mk Bool.false (Go.Eng.HB.rows (Go.Sa.B.i64 l3))))]) f n := by
  intro f
  induction f with
  | zero => intros; rfl
  | succ f ih =>
    intro n
    rw [iterK_succ, se_laws_eqInt64S_ww_0]
    exact (congrArg (fun z0 => s_laws_eqInt64S_ww_0 N b2 b3 l2 l3 n z0 (KL Go.Eng.Ex.ret [(Option.some (Go.Eng.AV.sc (Go.Eng.SV.bool Bool.false)))] [(Option.some (Go.Eng.HE.mk Bool.false (Go.Eng.HB.rows (Go.Sa.B.i64 l2)))), (Option.some (Go.Eng.HE.mk Bool.false (Go.Eng.HB.rows (Go.Sa.B.i64 l3))))]) (KL Go.Eng.Ex.normal [Option.none] [(Option.some (Go.Eng.HE.mk Bool.false (Go.Eng.HB.rows (Go.Sa.B.i64 l2)))), (Option.some (Go.Eng.HE.mk Bool.false (Go.Eng.HB.rows (Go.Sa.B.i64 l3))))])) (funext fun n => ih n))
def i_laws_eqInt64S_ww_0 (N : Nat) {R : Type} (vs : List (Option AV)) (H : Hp E) (KL : Ex → List (Option AV) → Hp E → Option R) : Option R :=
  match vs, H with
  | [(Option.some (Go.Eng.AV.sc (Go.Eng.SV.slc 0 Option.none b2))), (Option.some (Go.Eng.AV.sc (Go.Eng.SV.slc 1 Option.none b3))), (Option.some (Go.Eng.AV.sc (Go.Eng.SV.int Go.IntKind.i64 n)))], [(Option.some (Go.Eng.HE.mk Bool.false (Go.Eng.HB.rows (Go.Sa.B.i64 l2)))), (Option.some (Go.Eng.HE.mk Bool.false (Go.Eng.HB.rows (Go.Sa.B.i64 l3))))] => c_laws_eqInt64S_ww_0 N b2 b3 l2 l3 n (KL Go.Eng.Ex.ret [(Option.some (Go.Eng.AV.sc (Go.Eng.SV.bool Bool.false)))] [(Option.some (Go.Eng.HE.mk Bool.false (Go.Eng.HB.rows (Go.Sa.B.i64 l2)))), (Option.some (Go.Eng.HE.mk Bool.false (Go.Eng.HB.rows (Go.Sa.B.i64 l3))))]) (KL Go.Eng.Ex.normal [Option.none] [(Option.some (Go.Eng.HE.mk Bool.false (Go.Eng.HB.rows (Go.Sa.B.i64 l2)))), (Option.some (Go.Eng.HE.mk Bool.false (Go.Eng.HB.rows (Go.Sa.B.i64 l3))))])
  | _, _ => none
noncomputable def IT_laws_eqInt64S_ww_0 (N : Nat) : Its E := addIt 0 (i_laws_eqInt64S_ww_0 N) (noIt)
theorem IT_laws_eqInt64S_ww_0_ok (N : Nat) : ItOk (IT_laws_eqInt64S_ww_0 N) 2 26 sl_laws_eqInt64S_ww (lsB Go.Proofs.Try.f70 [0]) :=
  addItB_ok (inner := []) ok (O_laws_eqInt64S_ww_ok N) (jn_ok _ _ _) (noIt_ok) rfl (by kernel_rfl) rfl fun vs H KL r h => by
    unfold i_laws_eqInt64S_ww_0 at h
    split at h
    · exact ⟨_, (le_laws_eqInt64S_ww_0 N _ _ _ _ KL N _).trans h⟩
    · cases h
def g_laws_eqInt64S_ww (N : Nat) {R : Type} (b : Bool) (b1 : Bool) (l : List Int) (l1 : List Int) (k : Bool → Option R) : Option R :=
  (cond ((((List.length l) : Nat) : Int) != (((List.length l1) : Nat) : Int))
  (k Bool.false)
  (c_laws_eqInt64S_ww_0 N b b1 l l1 (0 : Int) (
    (k Bool.false)) (
    (k Bool.true))))
theorem e_laws_eqInt64S_ww (N : Nat) {R : Type} (b : Bool) (b1 : Bool) (l : List Int) (l1 : List Int) (K : AV → Hp E → Option R) :
    runFnI (E := E) (O_laws_eqInt64S_ww N) (IT_laws_eqInt64S_ww_0 N) sl_laws_eqInt64S_ww J_laws_eqInt64S_ww Go.Proofs.Try.f70 [(Go.Eng.AV.sc (Go.Eng.SV.slc 0 Option.none b)), (Go.Eng.AV.sc (Go.Eng.SV.slc 1 Option.none b1))] [(Option.some (Go.Eng.HE.mk Bool.false (Go.Eng.HB.rows (Go.Sa.B.i64 l)))), (Option.some (Go.Eng.HE.mk Bool.false (Go.Eng.HB.rows (Go.Sa.B.i64 l1))))] K =
      g_laws_eqInt64S_ww N b b1 l l1 (fun b4 => K (Go.Eng.AV.sc (Go.Eng.SV.bool b4)) [(Option.some (Go.Eng.HE.mk Bool.false (Go.Eng.HB.rows (Go.Sa.B.i64 l)))), (Option.some (Go.Eng.HE.mk Bool.false (Go.Eng.HB.rows (Go.Sa.B.i64 l1))))]) := by kernel_rfl
def o_laws_eqInt64S_ww (N : Nat) {R : Type} (args : List AV) (H : Hp E) (K : AV → Hp E → Option R) : Option R :=
  match args, H with
  | [(Go.Eng.AV.sc (Go.Eng.SV.slc 0 Option.none b)), (Go.Eng.AV.sc (Go.Eng.SV.slc 1 Option.none b1))], [(Option.some (Go.Eng.HE.mk Bool.false (Go.Eng.HB.rows (Go.Sa.B.i64 l)))), (Option.some (Go.Eng.HE.mk Bool.false (Go.Eng.HB.rows (Go.Sa.B.i64 l1))))] => g_laws_eqInt64S_ww N b b1 l l1 (fun b4 => K (Go.Eng.AV.sc (Go.Eng.SV.bool b4)) [(Option.some (Go.Eng.HE.mk Bool.false (Go.Eng.HB.rows (Go.Sa.B.i64 l)))), (Option.some (Go.Eng.HE.mk Bool.false (Go.Eng.HB.rows (Go.Sa.B.i64 l1))))])
  | _, _ => none
theorem o_laws_eqInt64S_ww_ok (N : Nat) : FnOk E 70 (o_laws_eqInt64S_ww N) := by
  intro R args H K r h
  unfold o_laws_eqInt64S_ww at h
  dsimp only at h
  split at h
  · exact fnB_ok (ids := [0]) (top := [0]) ok (O_laws_eqInt64S_ww_ok N) (jn_ok _ _ _) Go.Proofs.Try.func70 (by kernel_rfl) (IT := IT_laws_eqInt64S_ww_0 N) (sl := sl_laws_eqInt64S_ww) (J := J_laws_eqInt64S_ww) (K := K) (H := [(Option.some (Go.Eng.HE.mk Bool.false (Go.Eng.HB.rows (Go.Sa.B.i64 _)))), (Option.some (Go.Eng.HE.mk Bool.false (Go.Eng.HB.rows (Go.Sa.B.i64 _))))]) (IT_laws_eqInt64S_ww_0_ok N) (by kernel_rfl) rfl ((e_laws_eqInt64S_ww N _ _ _ _ K).trans h)
  · cases h
/-! ### loop.example/g00038/laws.FnExactQuoteOf -/
abbrev sl_laws_FnExactQuoteOf_r : SlotT := []
abbrev J_laws_FnExactQuoteOf_r : JT := jn [] [] []
noncomputable def O_laws_FnExactQuoteOf_r (N : Nat) : Orc E := addFn 70 (o_laws_eqInt64S_ww N) (addFn 69 (o_laws_eqQuote N) (addFn 68 (o_impl_QuoteOf_w N) (addFn 66 (o_spec_QuoteOf_w N) (addFn 67 (o_laws_toInt64S_r N) (noFn)))))
theorem O_laws_FnExactQuoteOf_r_ok (N : Nat) : OrcOk (O_laws_FnExactQuoteOf_r N) := addFn_ok (o_laws_eqInt64S_ww_ok N) (addFn_ok (o_laws_eqQuote_ok N) (addFn_ok (o_impl_QuoteOf_w_ok N) (addFn_ok (o_spec_QuoteOf_w_ok N) (addFn_ok (o_laws_toInt64S_r_ok N) (noFn_ok)))))
def g_laws_FnExactQuoteOf_r (N : Nat) {R : Type} (n : Int) (s : ByteArray) (b : Bool) (l : List Int) (k : Bool → Option R) : Option R :=
  (cond (decide (((((ByteArray.size s) : Nat) : Int) > (1048576 : Int))))
  (k Bool.true)
  (cond (decide (((((List.length l) : Nat) : Int) > (1048576 : Int))))
    (k Bool.true)
    (g_laws_toInt64S_r N b l fun l1 =>
      (g_spec_QuoteOf_w N n s Bool.false l1 fun n1 n2 =>
      (g_laws_toInt64S_r N b l fun l2 =>
      (g_impl_QuoteOf_w N n s Bool.false l2 fun n3 n4 l3 =>
      (g_laws_eqQuote N n3 n4 n1 n2 fun b1 =>
      (cond (!b1)
      (k Bool.false)
      (g_laws_toInt64S_r N b l fun l4 =>
        (g_laws_eqInt64S_ww N Bool.false Bool.false l3 l4 fun b2 =>
        (cond (!b2)
        (k Bool.false)
        (k Bool.true))))))))))))
theorem e_laws_FnExactQuoteOf_r (N : Nat) {R : Type} (n : Int) (s : ByteArray) (b : Bool) (l : List Int) (K : AV → Hp E → Option R) :
    runFnI (E := E) (O_laws_FnExactQuoteOf_r N) (noIt) sl_laws_FnExactQuoteOf_r J_laws_FnExactQuoteOf_r Go.Proofs.Try.f14 [(Go.Eng.AV.sc (Go.Eng.SV.int Go.IntKind.i64 n)), (Go.Eng.AV.sc (Go.Eng.SV.str s)), (Go.Eng.AV.sc (Go.Eng.SV.slc 0 Option.none b))] [(Option.some (Go.Eng.HE.mk Bool.true (Go.Eng.HB.rows (Go.Sa.B.i64 l))))] K =
      g_laws_FnExactQuoteOf_r N n s b l (fun b3 => K (Go.Eng.AV.sc (Go.Eng.SV.bool b3)) [(Option.some (Go.Eng.HE.mk Bool.true (Go.Eng.HB.rows (Go.Sa.B.i64 l))))]) := by kernel_rfl
def o_laws_FnExactQuoteOf_r (N : Nat) {R : Type} (args : List AV) (H : Hp E) (K : AV → Hp E → Option R) : Option R :=
  match args, H with
  | [(Go.Eng.AV.sc (Go.Eng.SV.int Go.IntKind.i64 n)), (Go.Eng.AV.sc (Go.Eng.SV.str s)), (Go.Eng.AV.sc (Go.Eng.SV.slc 0 Option.none b))], [(Option.some (Go.Eng.HE.mk Bool.true (Go.Eng.HB.rows (Go.Sa.B.i64 l))))] => g_laws_FnExactQuoteOf_r N n s b l (fun b3 => K (Go.Eng.AV.sc (Go.Eng.SV.bool b3)) [(Option.some (Go.Eng.HE.mk Bool.true (Go.Eng.HB.rows (Go.Sa.B.i64 l))))])
  | _, _ => none
theorem o_laws_FnExactQuoteOf_r_ok (N : Nat) : FnOk E 14 (o_laws_FnExactQuoteOf_r N) := by
  intro R args H K r h
  unfold o_laws_FnExactQuoteOf_r at h
  dsimp only at h
  split at h
  · exact fnB_ok (ids := []) (top := []) ok (O_laws_FnExactQuoteOf_r_ok N) (jn_ok _ _ _) Go.Proofs.Try.func14 (by kernel_rfl) (IT := noIt) (sl := sl_laws_FnExactQuoteOf_r) (J := J_laws_FnExactQuoteOf_r) (K := K) (H := [(Option.some (Go.Eng.HE.mk Bool.true (Go.Eng.HB.rows (Go.Sa.B.i64 _))))]) (noIt_ok) (by kernel_rfl) rfl ((e_laws_FnExactQuoteOf_r N _ _ _ _ K).trans h)
  · cases h
end Go.Sa
