import Derived.Test.YtmmgjioemnhoaaaSpec
import Derived.Test.YtmmgjioemnhoaaaPLb
import Derived.Test.YtmmgjioemnhoaaaW0
set_option linter.all false
namespace Go.Sa
open Go Go.Eng Go.Proofs
set_option maxRecDepth 100000
/-! ### loop.example/g00038/impl.TagOf -/
abbrev sl_impl_TagOf : SlotT := []
abbrev J_impl_TagOf : JT := jn [] [] []
noncomputable def O_impl_TagOf (N : Nat) : Orc E := addFn 69 (o_impl_PutWord N) (addFn 67 (o_impl_ymix N) (addFn 57 (o_impl_ylongKey_w N) (noFn)))
theorem O_impl_TagOf_ok (N : Nat) : OrcOk (O_impl_TagOf N) := addFn_ok (o_impl_PutWord_ok N) (addFn_ok (o_impl_ymix_ok N) (addFn_ok (o_impl_ylongKey_w_ok N) (noFn_ok)))
def g_impl_TagOf (N : Nat) {R : Type} (s : ByteArray) (s1 : ByteArray) (k : ByteArray → Option R) : Option R :=
  (g_impl_ylongKey_w N Bool.false [s, s1] fun b =>
  (cond b
  (k (ByteArray.mk (List.toArray [])))
  (cond (Nat.ble ((ByteArray.size s) + (ByteArray.size s1)) 9223372036854775807)
    (g_impl_ymix N (s ++ s1) (21 : Int) fun n =>
      (g_impl_PutWord N n fun s2 =>
      (cond (Nat.ble ((ByteArray.size s1) + (ByteArray.size s)) 9223372036854775807)
      (g_impl_ymix N (s1 ++ s) (22 : Int) fun n1 =>
        (g_impl_PutWord N n1 fun s3 =>
        (cond (Nat.ble ((ByteArray.size s2) + (ByteArray.size s3)) 9223372036854775807)
        (k (s2 ++ s3))
        none)))
      none)))
    none)))
theorem e_impl_TagOf (N : Nat) {R : Type} (s : ByteArray) (s1 : ByteArray) (K : AV → Hp E → Option R) :
    runFnI (E := E) (O_impl_TagOf N) (noIt) sl_impl_TagOf J_impl_TagOf Go.Proofs.Try.f60 [(Go.Eng.AV.sc (Go.Eng.SV.str s)), (Go.Eng.AV.sc (Go.Eng.SV.str s1))] [] K =
      g_impl_TagOf N s s1 (fun s4 => K (Go.Eng.AV.sc (Go.Eng.SV.str s4)) []) := by kernel_rfl
def o_impl_TagOf (N : Nat) {R : Type} (args : List AV) (H : Hp E) (K : AV → Hp E → Option R) : Option R :=
  match args, H with
  | [(Go.Eng.AV.sc (Go.Eng.SV.str s)), (Go.Eng.AV.sc (Go.Eng.SV.str s1))], [] => g_impl_TagOf N s s1 (fun s4 => K (Go.Eng.AV.sc (Go.Eng.SV.str s4)) [])
  | _, _ => none
theorem o_impl_TagOf_ok (N : Nat) : FnOk E 60 (o_impl_TagOf N) := by
  intro R args H K r h
  unfold o_impl_TagOf at h
  dsimp only at h
  split at h
  · exact fnB_ok (ids := []) (top := []) ok (O_impl_TagOf_ok N) (jn_ok _ _ _) Go.Proofs.Try.func60 (by kernel_rfl) (IT := noIt) (sl := sl_impl_TagOf) (J := J_impl_TagOf) (K := K) (H := []) (noIt_ok) (by kernel_rfl) rfl ((e_impl_TagOf N _ _ K).trans h)
  · cases h
/-! ### loop.example/g00038/impl.ybig -/
abbrev sl_impl_ybig_w : SlotT := [(0, ([5, 6, 7], [2]))]
abbrev J_impl_ybig_w : JT := jn [] [] []
noncomputable def O_impl_ybig_w (N : Nat) : Orc E := noFn
theorem O_impl_ybig_w_ok (N : Nat) : OrcOk (O_impl_ybig_w N) := noFn_ok
def s_impl_ybig_w_0 (N : Nat) {R : Type} (b1 : Bool) (n : Int) (l1 : List ByteArray) (n1 : Int) (ag : Int → Option R)  (kR : Option R) (kN : Option R) : Option R :=
  (cond (decide ((n1 < n)))
  (cond ((decide (((0 : Int) ≤ n1))) && (decide ((n1 < (((List.length l1) : Nat) : Int)))))
    (elemK l1 (Int.toNat n1) fun x =>
      (cond (decide (((((ByteArray.size x) : Nat) : Int) > (65536 : Int))))
      kR
      (ag (Go.IntKind.wrap Go.IntKind.i64 (n1 + (1 : Int))))))
    none)
  kN)
def l_impl_ybig_w_0 (N : Nat) {R : Type} (b1 : Bool) (n : Int) (l1 : List ByteArray) (kR : Option R) (kN : Option R) : Nat → Int → Option R
  | 0, _ => none
  | f + 1, n1 => s_impl_ybig_w_0 N b1 n l1 n1 (fun n1 => l_impl_ybig_w_0 N b1 n l1 kR kN f n1)  kR kN
def c_impl_ybig_w_0 (N : Nat) {R : Type} (b1 : Bool) (n : Int) (l1 : List ByteArray) (n1 : Int) (kR : Option R) (kN : Option R) : Option R := l_impl_ybig_w_0 N b1 n l1 kR kN N n1
theorem se_impl_ybig_w_0 (N : Nat) {R : Type} (b1 : Bool) (n : Int) (l1 : List ByteArray) (n1 : Int) (AG : List (Option AV) → Hp E → Option R) (KL : Ex → List (Option AV) → Hp E → Option R) :
    iterStep (E := E) (O_impl_ybig_w N) (fun {R} => LI (noIt) 1 15 sl_impl_ybig_w (R := R)) J_impl_ybig_w 1 15 0 [5, 6, 7] [2] (body Go.Proofs.Try.f92 0) AG KL [(Option.some (Go.Eng.AV.sc (Go.Eng.SV.slc 0 Option.none b1))), (Option.some (Go.Eng.AV.sc (Go.Eng.SV.int Go.IntKind.i64 n))), (Option.some (Go.Eng.AV.sc (Go.Eng.SV.int Go.IntKind.i64 n1)))] [(Option.some (Go.Eng.HE.mk Bool.false (Go.Eng.HB.rows (Go.Sa.B.str l1))))] =
      s_impl_ybig_w_0 N b1 n l1 n1 (fun n1 => AG [(Option.some (Go.Eng.AV.sc (Go.Eng.SV.slc 0 Option.none b1))), (Option.some (Go.Eng.AV.sc (Go.Eng.SV.int Go.IntKind.i64 n))), (Option.some (Go.Eng.AV.sc (Go.Eng.SV.int Go.IntKind.i64 n1)))] [(Option.some (Go.Eng.HE.mk Bool.false (Go.Eng.HB.rows (Go.Sa.B.str l1))))])  (KL Go.Eng.Ex.ret [(Option.some (Go.Eng.AV.sc (Go.Eng.SV.bool Bool.true)))] [(Option.some (Go.Eng.HE.mk Bool.false (Go.Eng.HB.rows (Go.Sa.B.str l1))))]) (KL Go.Eng.Ex.normal [Option.none] [(Option.some (Go.Eng.HE.mk Bool.false (Go.Eng.HB.rows (Go.Sa.B.str l1))))]) := by kernel_rfl
theorem le_impl_ybig_w_0 (N : Nat) {R : Type} (b1 : Bool) (n : Int) (l1 : List ByteArray) (KL : Ex → List (Option AV) → Hp E → Option R) : ∀ (f : Nat), ∀ (n1 : Int), iterK (E := E) (O_impl_ybig_w N) (fun {R} => LI (noIt) 1 15 sl_impl_ybig_w (R := R)) J_impl_ybig_w 1 15 0 [5, 6, 7] [2] (body Go.Proofs.Try.f92 0) f [(Option.some (Go.Eng.AV.sc (Go.Eng.SV.slc 0 Option.none b1))), (Option.some (Go.Eng.AV.sc (Go.Eng.SV.int Go.IntKind.i64 n))), (Option.some (Go.Eng.AV.sc (Go.Eng.SV.int Go.IntKind.i64 n1)))] [(Option.some (Go.Eng.HE.mk Bool.false (Go.Eng.HB.rows (Go.Sa.B.str l1))))] KL = l_impl_ybig_w_0 N b1 n l1 (KL Go.Eng.Ex.ret [(Option.some (Go.Eng.AV.sc (Go.Eng.SV.bool Bool.true)))] [(Option.some (Go.Eng.HE.mk Bool.false (Go.Eng.HB.rows (Go.Sa.B.str l1))))]) (KL Go.Eng.Ex.normal [Option.none] [(Option.some (Go.Eng.HE.mk Bool.false (Go.Eng.HB.rows (Go.Sa.B.str l1))))]) f n1 := by
  intro f
  induction f with
  | zero => intros; rfl
  | succ f ih =>
    intro n1
    rw [iterK_succ, se_impl_ybig_w_0]
    exact (congrArg (fun z0 => s_impl_ybig_w_0 N b1 n l1 n1 z0 (KL Go.Eng.Ex.ret [(Option.some (Go.Eng.AV.sc (Go.Eng.SV.bool Bool.true)))] [(Option.some (Go.Eng.HE.mk Bool.false (Go.Eng.HB.rows (Go.Sa.B.str l1))))]) (KL Go.Eng.Ex.normal [Option.none] [(Option.some (Go.Eng.HE.mk Bool.false (Go.Eng.HB.rows (Go.Sa.B.str l1))))])) (funext fun n1 => ih n1))
def i_impl_ybig_w_0 (N : Nat) {R : Type} (vs : List (Option AV)) (H : Hp E) (KL : Ex → List (Option AV) → Hp E → Option R) : Option R :=
  match vs, H with
  | [(Option.some (Go.Eng.AV.sc (Go.Eng.SV.slc 0 Option.none b1))), (Option.some (Go.Eng.AV.sc (Go.Eng.SV.int Go.IntKind.i64 n))), (Option.some (Go.Eng.AV.sc (Go.Eng.SV.int Go.IntKind.i64 n1)))], [(Option.some (Go.Eng.HE.mk Bool.false (Go.Eng.HB.rows (Go.Sa.B.str l1))))] => c_impl_ybig_w_0 N b1 n l1 n1 (KL Go.Eng.Ex.ret [(Option.some (Go.Eng.AV.sc (Go.Eng.SV.bool Bool.true)))] [(Option.some (Go.Eng.HE.mk Bool.false (Go.Eng.HB.rows (Go.Sa.B.str l1))))]) (KL Go.Eng.Ex.normal [Option.none] [(Option.some (Go.Eng.HE.mk Bool.false (Go.Eng.HB.rows (Go.Sa.B.str l1))))])
  | _, _ => none
noncomputable def IT_impl_ybig_w_0 (N : Nat) : Its E := addIt 0 (i_impl_ybig_w_0 N) (noIt)
theorem IT_impl_ybig_w_0_ok (N : Nat) : ItOk (IT_impl_ybig_w_0 N) 1 15 sl_impl_ybig_w (lsB Go.Proofs.Try.f92 [0]) :=
  addItB_ok (inner := []) ok (O_impl_ybig_w_ok N) (jn_ok _ _ _) (noIt_ok) rfl (by kernel_rfl) rfl fun vs H KL r h => by
    unfold i_impl_ybig_w_0 at h
    split at h
    · exact ⟨_, (le_impl_ybig_w_0 N _ _ _ KL N _).trans h⟩
    · cases h
def g_impl_ybig_w (N : Nat) {R : Type} (b : Bool) (l : List ByteArray) (k : Bool → Option R) : Option R :=
  (c_impl_ybig_w_0 N b (((List.length l) : Nat) : Int) l (0 : Int) (
  (k Bool.true)) (
  (k Bool.false)))
theorem e_impl_ybig_w (N : Nat) {R : Type} (b : Bool) (l : List ByteArray) (K : AV → Hp E → Option R) :
    runFnI (E := E) (O_impl_ybig_w N) (IT_impl_ybig_w_0 N) sl_impl_ybig_w J_impl_ybig_w Go.Proofs.Try.f92 [(Go.Eng.AV.sc (Go.Eng.SV.slc 0 Option.none b))] [(Option.some (Go.Eng.HE.mk Bool.false (Go.Eng.HB.rows (Go.Sa.B.str l))))] K =
      g_impl_ybig_w N b l (fun b2 => K (Go.Eng.AV.sc (Go.Eng.SV.bool b2)) [(Option.some (Go.Eng.HE.mk Bool.false (Go.Eng.HB.rows (Go.Sa.B.str l))))]) := by kernel_rfl
def o_impl_ybig_w (N : Nat) {R : Type} (args : List AV) (H : Hp E) (K : AV → Hp E → Option R) : Option R :=
  match args, H with
  | [(Go.Eng.AV.sc (Go.Eng.SV.slc 0 Option.none b))], [(Option.some (Go.Eng.HE.mk Bool.false (Go.Eng.HB.rows (Go.Sa.B.str l))))] => g_impl_ybig_w N b l (fun b2 => K (Go.Eng.AV.sc (Go.Eng.SV.bool b2)) [(Option.some (Go.Eng.HE.mk Bool.false (Go.Eng.HB.rows (Go.Sa.B.str l))))])
  | _, _ => none
theorem o_impl_ybig_w_ok (N : Nat) : FnOk E 92 (o_impl_ybig_w N) := by
  intro R args H K r h
  unfold o_impl_ybig_w at h
  dsimp only at h
  split at h
  · exact fnB_ok (ids := [0]) (top := [0]) ok (O_impl_ybig_w_ok N) (jn_ok _ _ _) Go.Proofs.Try.func92 (by kernel_rfl) (IT := IT_impl_ybig_w_0 N) (sl := sl_impl_ybig_w) (J := J_impl_ybig_w) (K := K) (H := [(Option.some (Go.Eng.HE.mk Bool.false (Go.Eng.HB.rows (Go.Sa.B.str _))))]) (IT_impl_ybig_w_0_ok N) (by kernel_rfl) rfl ((e_impl_ybig_w N _ _ K).trans h)
  · cases h
/-! ### loop.example/g00038/impl.yjoin -/
abbrev sl_impl_yjoin_w : SlotT := []
abbrev J_impl_yjoin_w : JT := jn [] [] []
noncomputable def O_impl_yjoin_w (N : Nat) : Orc E := addFn 111 osp_111 (noFn)
theorem O_impl_yjoin_w_ok (N : Nat) : OrcOk (O_impl_yjoin_w N) := addFn_ok osp_111_ok (noFn_ok)
def g_impl_yjoin_w (N : Nat) {R : Type} (b : Bool) (l : List ByteArray) (k : ByteArray → Option R) : Option R :=
  (cond (Go.Eng.joinOk l (ByteArray.mk (List.toArray [])))
  (k (Go.Eng.joinB l (ByteArray.mk (List.toArray []))))
  none)
theorem e_impl_yjoin_w (N : Nat) {R : Type} (b : Bool) (l : List ByteArray) (K : AV → Hp E → Option R) :
    runFnI (E := E) (O_impl_yjoin_w N) (noIt) sl_impl_yjoin_w J_impl_yjoin_w Go.Proofs.Try.f68 [(Go.Eng.AV.sc (Go.Eng.SV.slc 0 Option.none b))] [(Option.some (Go.Eng.HE.mk Bool.false (Go.Eng.HB.rows (Go.Sa.B.str l))))] K =
      g_impl_yjoin_w N b l (fun s => K (Go.Eng.AV.sc (Go.Eng.SV.str s)) [(Option.some (Go.Eng.HE.mk Bool.false (Go.Eng.HB.rows (Go.Sa.B.str l))))]) := by kernel_rfl
def o_impl_yjoin_w (N : Nat) {R : Type} (args : List AV) (H : Hp E) (K : AV → Hp E → Option R) : Option R :=
  match args, H with
  | [(Go.Eng.AV.sc (Go.Eng.SV.slc 0 Option.none b))], [(Option.some (Go.Eng.HE.mk Bool.false (Go.Eng.HB.rows (Go.Sa.B.str l))))] => g_impl_yjoin_w N b l (fun s => K (Go.Eng.AV.sc (Go.Eng.SV.str s)) [(Option.some (Go.Eng.HE.mk Bool.false (Go.Eng.HB.rows (Go.Sa.B.str l))))])
  | _, _ => none
theorem o_impl_yjoin_w_ok (N : Nat) : FnOk E 68 (o_impl_yjoin_w N) := by
  intro R args H K r h
  unfold o_impl_yjoin_w at h
  dsimp only at h
  split at h
  · exact fnB_ok (ids := []) (top := []) ok (O_impl_yjoin_w_ok N) (jn_ok _ _ _) Go.Proofs.Try.func68 (by kernel_rfl) (IT := noIt) (sl := sl_impl_yjoin_w) (J := J_impl_yjoin_w) (K := K) (H := [(Option.some (Go.Eng.HE.mk Bool.false (Go.Eng.HB.rows (Go.Sa.B.str _))))]) (noIt_ok) (by kernel_rfl) rfl ((e_impl_yjoin_w N _ _ K).trans h)
  · cases h
/-! ### loop.example/g00038/impl.Crypt -/
abbrev sl_impl_Crypt : SlotT := [(0, ([0, 1, 7, 22, 23], [7])), (2, ([0, 1, 7, 8, 9, 10, 22, 23], [0, 1, 7, 22, 23]))]
abbrev J_impl_Crypt : JT := jn [(1, [(18, .b)])] [] []
noncomputable def O_impl_Crypt (N : Nat) : Orc E := addFn 67 (o_impl_ymix N) (addFn 68 (o_impl_yjoin_w N) (addFn 69 (o_impl_PutWord N) (addFn 92 (o_impl_ybig_w N) (addFn 57 (o_impl_ylongKey_w N) (noFn)))))
theorem O_impl_Crypt_ok (N : Nat) : OrcOk (O_impl_Crypt N) := addFn_ok (o_impl_ymix_ok N) (addFn_ok (o_impl_yjoin_w_ok N) (addFn_ok (o_impl_PutWord_ok N) (addFn_ok (o_impl_ybig_w_ok N) (addFn_ok (o_impl_ylongKey_w_ok N) (noFn_ok)))))
def s_impl_Crypt_2 (N : Nat) {R : Type} (s6 : ByteArray) (n5 : Int) (b3 : Bool) (n6 : Int) (n9 : Int) (n10 : Int) (n7 : Int) (n8 : Int) (l1 : List Int) (ag : Int → Int → (List Int) → Option R)  (kN : (List Int) → Option R) : Option R :=
  (cond (decide ((n8 < (if ((decide (((((List.length l1) : Nat) : Int) < (Go.IntKind.wrap Go.IntKind.i64 (n6 + (3 : Int)))))) = Bool.true) then (((List.length l1) : Nat) : Int) else (Go.IntKind.wrap Go.IntKind.i64 (n6 + (3 : Int)))))))
  (cond ((decide (((0 : Int) ≤ n8))) && (decide ((n8 < (((List.length l1) : Nat) : Int)))))
    (elemK l1 (Int.toNat n8) fun x =>
      (cond ((decide (((0 : Int) ≤ n8))) && (decide ((n8 < (((List.length l1) : Nat) : Int)))))
      (elemK l1 (Int.toNat n8) fun x1 =>
        (cond (Nat.blt (Int.toNat n8) (List.length l1))
        (ag (Int.fdiv n7 (256 : Int)) (Go.IntKind.wrap Go.IntKind.i64 (n8 + (1 : Int))) (Go.Eng.nset l1 (Int.toNat n8) (Go.IntKind.wrap Go.IntKind.u8 (((BitVec.toNat ((BitVec.ofInt 8 x) ^^^ (BitVec.ofInt 8 (Go.IntKind.wrap Go.IntKind.u8 n7)))) : Nat) : Int))))
        none))
      none))
    none)
  (kN l1))
def l_impl_Crypt_2 (N : Nat) {R : Type} (s6 : ByteArray) (n5 : Int) (b3 : Bool) (n6 : Int) (n9 : Int) (n10 : Int) (kN : (List Int) → Option R) : Nat → Int → Int → (List Int) → Option R
  | 0, _, _, _ => none
  | f + 1, n7, n8, l1 => s_impl_Crypt_2 N s6 n5 b3 n6 n9 n10 n7 n8 l1 (fun n7 n8 l1 => l_impl_Crypt_2 N s6 n5 b3 n6 n9 n10 kN f n7 n8 l1)  kN
def c_impl_Crypt_2 (N : Nat) {R : Type} (s6 : ByteArray) (n5 : Int) (b3 : Bool) (n6 : Int) (n9 : Int) (n10 : Int) (n7 : Int) (n8 : Int) (l1 : List Int) (kN : (List Int) → Option R) : Option R := l_impl_Crypt_2 N s6 n5 b3 n6 n9 n10 kN N n7 n8 l1
theorem se_impl_Crypt_2 (N : Nat) {R : Type} (s6 : ByteArray) (n5 : Int) (b3 : Bool) (n6 : Int) (n9 : Int) (n10 : Int) (n7 : Int) (n8 : Int) (l1 : List Int) (AG : List (Option AV) → Hp E → Option R) (KL : Ex → List (Option AV) → Hp E → Option R) :
    iterStep (E := E) (O_impl_Crypt N) (fun {R} => LI (noIt) 0 61 sl_impl_Crypt (R := R)) J_impl_Crypt 0 61 2 [0, 1, 7, 8, 9, 10, 22, 23] [0, 1, 7, 22, 23] (body Go.Proofs.Try.f40 2) AG KL [(Option.some (Go.Eng.AV.sc (Go.Eng.SV.str s6))), (Option.some (Go.Eng.AV.sc (Go.Eng.SV.int Go.IntKind.i64 n5))), (Option.some (Go.Eng.AV.sc (Go.Eng.SV.slc 0 Option.none b3))), (Option.some (Go.Eng.AV.sc (Go.Eng.SV.int Go.IntKind.i64 n6))), (Option.some (Go.Eng.AV.sc (Go.Eng.SV.int Go.IntKind.i64 n7))), (Option.some (Go.Eng.AV.sc (Go.Eng.SV.int Go.IntKind.i64 n8))), (Option.some (Go.Eng.AV.sc (Go.Eng.SV.int Go.IntKind.i64 n9))), (Option.some (Go.Eng.AV.sc (Go.Eng.SV.int Go.IntKind.i64 n10)))] [(Option.some (Go.Eng.HE.mk Bool.false (Go.Eng.HB.rows (Go.Sa.B.u8 l1))))] =
      s_impl_Crypt_2 N s6 n5 b3 n6 n9 n10 n7 n8 l1 (fun n7 n8 l1 => AG [(Option.some (Go.Eng.AV.sc (Go.Eng.SV.str s6))), (Option.some (Go.Eng.AV.sc (Go.Eng.SV.int Go.IntKind.i64 n5))), (Option.some (Go.Eng.AV.sc (Go.Eng.SV.slc 0 Option.none b3))), (Option.some (Go.Eng.AV.sc (Go.Eng.SV.int Go.IntKind.i64 n6))), (Option.some (Go.Eng.AV.sc (Go.Eng.SV.int Go.IntKind.i64 n7))), (Option.some (Go.Eng.AV.sc (Go.Eng.SV.int Go.IntKind.i64 n8))), (Option.some (Go.Eng.AV.sc (Go.Eng.SV.int Go.IntKind.i64 n9))), (Option.some (Go.Eng.AV.sc (Go.Eng.SV.int Go.IntKind.i64 n10)))] [(Option.some (Go.Eng.HE.mk Bool.false (Go.Eng.HB.rows (Go.Sa.B.u8 l1))))])  (fun l4 => KL Go.Eng.Ex.normal [(Option.some (Go.Eng.AV.sc (Go.Eng.SV.str s6))), (Option.some (Go.Eng.AV.sc (Go.Eng.SV.int Go.IntKind.i64 n5))), (Option.some (Go.Eng.AV.sc (Go.Eng.SV.slc 0 Option.none b3))), (Option.some (Go.Eng.AV.sc (Go.Eng.SV.int Go.IntKind.i64 n9))), (Option.some (Go.Eng.AV.sc (Go.Eng.SV.int Go.IntKind.i64 n10)))] [(Option.some (Go.Eng.HE.mk Bool.false (Go.Eng.HB.rows (Go.Sa.B.u8 l4))))]) := by kernel_rfl
theorem le_impl_Crypt_2 (N : Nat) {R : Type} (s6 : ByteArray) (n5 : Int) (b3 : Bool) (n6 : Int) (n9 : Int) (n10 : Int) (KL : Ex → List (Option AV) → Hp E → Option R) : ∀ (f : Nat), ∀ (n7 : Int) (n8 : Int) (l1 : List Int), iterK (E := E) (O_impl_Crypt N) (fun {R} => LI (noIt) 0 61 sl_impl_Crypt (R := R)) J_impl_Crypt 0 61 2 [0, 1, 7, 8, 9, 10, 22, 23] [0, 1, 7, 22, 23] (body Go.Proofs.Try.f40 2) f [(Option.some (Go.Eng.AV.sc (Go.Eng.SV.str s6))), (Option.some (Go.Eng.AV.sc (Go.Eng.SV.int Go.IntKind.i64 n5))), (Option.some (Go.Eng.AV.sc (Go.Eng.SV.slc 0 Option.none b3))), (Option.some (Go.Eng.AV.sc (Go.Eng.SV.int Go.IntKind.i64 n6))), (Option.some (Go.Eng.AV.sc (Go.Eng.SV.int Go.IntKind.i64 n7))), (Option.some (Go.Eng.AV.sc (Go.Eng.SV.int Go.IntKind.i64 n8))), (Option.some (Go.Eng.AV.sc (Go.Eng.SV.int Go.IntKind.i64 n9))), (Option.some (Go.Eng.AV.sc (Go.Eng.SV.int Go.IntKind.i64 n10)))] [(Option.some (Go.Eng.HE.mk Bool.false (Go.Eng.HB.rows (Go.Sa.B.u8 l1))))] KL = l_impl_Crypt_2 N s6 n5 b3 n6 n9 n10 (fun l4 => KL Go.Eng.Ex.normal [(Option.some (Go.Eng.AV.sc (Go.Eng.SV.str s6))), (Option.some (Go.Eng.AV.sc (Go.Eng.SV.int Go.IntKind.i64 n5))), (Option.some (Go.Eng.AV.sc (Go.Eng.SV.slc 0 Option.none b3))), (Option.some (Go.Eng.AV.sc (Go.Eng.SV.int Go.IntKind.i64 n9))), (Option.some (Go.Eng.AV.sc (Go.Eng.SV.int Go.IntKind.i64 n10)))] [(Option.some (Go.Eng.HE.mk Bool.false (Go.Eng.HB.rows (Go.Sa.B.u8 l4))))]) f n7 n8 l1 := by
  intro f
  induction f with
  | zero => intros; rfl
  | succ f ih =>
    intro n7 n8 l1
    rw [iterK_succ, se_impl_Crypt_2]
    exact (congrArg (fun z0 => s_impl_Crypt_2 N s6 n5 b3 n6 n9 n10 n7 n8 l1 z0 (fun l4 => KL Go.Eng.Ex.normal [(Option.some (Go.Eng.AV.sc (Go.Eng.SV.str s6))), (Option.some (Go.Eng.AV.sc (Go.Eng.SV.int Go.IntKind.i64 n5))), (Option.some (Go.Eng.AV.sc (Go.Eng.SV.slc 0 Option.none b3))), (Option.some (Go.Eng.AV.sc (Go.Eng.SV.int Go.IntKind.i64 n9))), (Option.some (Go.Eng.AV.sc (Go.Eng.SV.int Go.IntKind.i64 n10)))] [(Option.some (Go.Eng.HE.mk Bool.false (Go.Eng.HB.rows (Go.Sa.B.u8 l4))))])) (funext fun n7 => funext fun n8 => funext fun l1 => ih n7 n8 l1))
def i_impl_Crypt_2 (N : Nat) {R : Type} (vs : List (Option AV)) (H : Hp E) (KL : Ex → List (Option AV) → Hp E → Option R) : Option R :=
  match vs, H with
  | [(Option.some (Go.Eng.AV.sc (Go.Eng.SV.str s6))), (Option.some (Go.Eng.AV.sc (Go.Eng.SV.int Go.IntKind.i64 n5))), (Option.some (Go.Eng.AV.sc (Go.Eng.SV.slc 0 Option.none b3))), (Option.some (Go.Eng.AV.sc (Go.Eng.SV.int Go.IntKind.i64 n6))), (Option.some (Go.Eng.AV.sc (Go.Eng.SV.int Go.IntKind.i64 n7))), (Option.some (Go.Eng.AV.sc (Go.Eng.SV.int Go.IntKind.i64 n8))), (Option.some (Go.Eng.AV.sc (Go.Eng.SV.int Go.IntKind.i64 n9))), (Option.some (Go.Eng.AV.sc (Go.Eng.SV.int Go.IntKind.i64 n10)))], [(Option.some (Go.Eng.HE.mk Bool.false (Go.Eng.HB.rows (Go.Sa.B.u8 l1))))] => c_impl_Crypt_2 N s6 n5 b3 n6 n9 n10 n7 n8 l1 (fun l5 => KL Go.Eng.Ex.normal [(Option.some (Go.Eng.AV.sc (Go.Eng.SV.str s6))), (Option.some (Go.Eng.AV.sc (Go.Eng.SV.int Go.IntKind.i64 n5))), (Option.some (Go.Eng.AV.sc (Go.Eng.SV.slc 0 Option.none b3))), (Option.some (Go.Eng.AV.sc (Go.Eng.SV.int Go.IntKind.i64 n9))), (Option.some (Go.Eng.AV.sc (Go.Eng.SV.int Go.IntKind.i64 n10)))] [(Option.some (Go.Eng.HE.mk Bool.false (Go.Eng.HB.rows (Go.Sa.B.u8 l5))))])
  | _, _ => none
noncomputable def IT_impl_Crypt_2 (N : Nat) : Its E := addIt 2 (i_impl_Crypt_2 N) (noIt)
theorem IT_impl_Crypt_2_ok (N : Nat) : ItOk (IT_impl_Crypt_2 N) 0 61 sl_impl_Crypt (lsB Go.Proofs.Try.f40 [2]) :=
  addItB_ok (inner := []) ok (O_impl_Crypt_ok N) (jn_ok _ _ _) (noIt_ok) rfl (by kernel_rfl) rfl fun vs H KL r h => by
    unfold i_impl_Crypt_2 at h
    split at h
    · exact ⟨_, (le_impl_Crypt_2 N _ _ _ _ _ _ KL N _ _ _).trans h⟩
    · cases h
def s_impl_Crypt_0 (N : Nat) {R : Type} (s2 : ByteArray) (n1 : Int) (b2 : Bool) (n2 : Int) (n3 : Int) (l : List Int) (ag : Int → (List Int) → Option R)  (kN : (List Int) → Option R) : Option R :=
  (cond (decide ((n3 < n2)))
  (cond ((Int.tmod n3 (3 : Int)) == (0 : Int))
    (g_impl_PutWord N n1 fun s3 =>
      (g_impl_PutWord N (Go.IntKind.wrap Go.IntKind.i64 (Int.tdiv n3 (3 : Int))) fun s4 =>
      (g_impl_yjoin_w N Bool.false [s2, s3, s4] fun s5 =>
      (g_impl_ymix N s5 (11 : Int) fun n4 =>
      (c_impl_Crypt_2 N s2 n1 b2 n3 n2 n3 n4 n3 l fun l2 =>
      (ag (Go.IntKind.wrap Go.IntKind.i64 (n3 + (1 : Int))) l2))))))
    (ag (Go.IntKind.wrap Go.IntKind.i64 (n3 + (1 : Int))) l))
  (kN l))
def l_impl_Crypt_0 (N : Nat) {R : Type} (s2 : ByteArray) (n1 : Int) (b2 : Bool) (n2 : Int) (kN : (List Int) → Option R) : Nat → Int → (List Int) → Option R
  | 0, _, _ => none
  | f + 1, n3, l => s_impl_Crypt_0 N s2 n1 b2 n2 n3 l (fun n3 l => l_impl_Crypt_0 N s2 n1 b2 n2 kN f n3 l)  kN
def c_impl_Crypt_0 (N : Nat) {R : Type} (s2 : ByteArray) (n1 : Int) (b2 : Bool) (n2 : Int) (n3 : Int) (l : List Int) (kN : (List Int) → Option R) : Option R := l_impl_Crypt_0 N s2 n1 b2 n2 kN N n3 l
theorem se_impl_Crypt_0 (N : Nat) {R : Type} (s2 : ByteArray) (n1 : Int) (b2 : Bool) (n2 : Int) (n3 : Int) (l : List Int) (AG : List (Option AV) → Hp E → Option R) (KL : Ex → List (Option AV) → Hp E → Option R) :
    iterStep (E := E) (O_impl_Crypt N) (fun {R} => LI (IT_impl_Crypt_2 N) 0 61 sl_impl_Crypt (R := R)) J_impl_Crypt 0 61 0 [0, 1, 7, 22, 23] [7] (body Go.Proofs.Try.f40 0) AG KL [(Option.some (Go.Eng.AV.sc (Go.Eng.SV.str s2))), (Option.some (Go.Eng.AV.sc (Go.Eng.SV.int Go.IntKind.i64 n1))), (Option.some (Go.Eng.AV.sc (Go.Eng.SV.slc 0 Option.none b2))), (Option.some (Go.Eng.AV.sc (Go.Eng.SV.int Go.IntKind.i64 n2))), (Option.some (Go.Eng.AV.sc (Go.Eng.SV.int Go.IntKind.i64 n3)))] [(Option.some (Go.Eng.HE.mk Bool.false (Go.Eng.HB.rows (Go.Sa.B.u8 l))))] =
      s_impl_Crypt_0 N s2 n1 b2 n2 n3 l (fun n3 l => AG [(Option.some (Go.Eng.AV.sc (Go.Eng.SV.str s2))), (Option.some (Go.Eng.AV.sc (Go.Eng.SV.int Go.IntKind.i64 n1))), (Option.some (Go.Eng.AV.sc (Go.Eng.SV.slc 0 Option.none b2))), (Option.some (Go.Eng.AV.sc (Go.Eng.SV.int Go.IntKind.i64 n2))), (Option.some (Go.Eng.AV.sc (Go.Eng.SV.int Go.IntKind.i64 n3)))] [(Option.some (Go.Eng.HE.mk Bool.false (Go.Eng.HB.rows (Go.Sa.B.u8 l))))])  (fun l6 => KL Go.Eng.Ex.normal [(Option.some (Go.Eng.AV.sc (Go.Eng.SV.slc 0 Option.none b2)))] [(Option.some (Go.Eng.HE.mk Bool.false (Go.Eng.HB.rows (Go.Sa.B.u8 l6))))]) := by kernel_rfl
theorem le_impl_Crypt_0 (N : Nat) {R : Type} (s2 : ByteArray) (n1 : Int) (b2 : Bool) (n2 : Int) (KL : Ex → List (Option AV) → Hp E → Option R) : ∀ (f : Nat), ∀ (n3 : Int) (l : List Int), iterK (E := E) (O_impl_Crypt N) (fun {R} => LI (IT_impl_Crypt_2 N) 0 61 sl_impl_Crypt (R := R)) J_impl_Crypt 0 61 0 [0, 1, 7, 22, 23] [7] (body Go.Proofs.Try.f40 0) f [(Option.some (Go.Eng.AV.sc (Go.Eng.SV.str s2))), (Option.some (Go.Eng.AV.sc (Go.Eng.SV.int Go.IntKind.i64 n1))), (Option.some (Go.Eng.AV.sc (Go.Eng.SV.slc 0 Option.none b2))), (Option.some (Go.Eng.AV.sc (Go.Eng.SV.int Go.IntKind.i64 n2))), (Option.some (Go.Eng.AV.sc (Go.Eng.SV.int Go.IntKind.i64 n3)))] [(Option.some (Go.Eng.HE.mk Bool.false (Go.Eng.HB.rows (Go.Sa.B.u8 l))))] KL = l_impl_Crypt_0 N s2 n1 b2 n2 (fun l6 => KL Go.Eng.Ex.normal [(Option.some (Go.Eng.AV.sc (Go.Eng.SV.slc 0 Option.none b2)))] [(Option.some (Go.Eng.HE.mk Bool.false (Go.Eng.HB.rows (Go.Sa.B.u8 l6))))]) f n3 l := by
  intro f
  induction f with
  | zero => intros; rfl
  | succ f ih =>
    intro n3 l
    rw [iterK_succ, se_impl_Crypt_0]
    exact (congrArg (fun z0 => s_impl_Crypt_0 N s2 n1 b2 n2 n3 l z0 (fun l6 => KL Go.Eng.Ex.normal [(Option.some (Go.Eng.AV.sc (Go.Eng.SV.slc 0 Option.none b2)))] [(Option.some (Go.Eng.HE.mk Bool.false (Go.Eng.HB.rows (Go.Sa.B.u8 l6))))])) (funext fun n3 => funext fun l => ih n3 l))
def i_impl_Crypt_0 (N : Nat) {R : Type} (vs : List (Option AV)) (H : Hp E) (KL : Ex → List (Option AV) → Hp E → Option R) : Option R :=
  match vs, H with
  | [(Option.some (Go.Eng.AV.sc (Go.Eng.SV.str s2))), (Option.some (Go.Eng.AV.sc (Go.Eng.SV.int Go.IntKind.i64 n1))), (Option.some (Go.Eng.AV.sc (Go.Eng.SV.slc 0 Option.none b2))), (Option.some (Go.Eng.AV.sc (Go.Eng.SV.int Go.IntKind.i64 n2))), (Option.some (Go.Eng.AV.sc (Go.Eng.SV.int Go.IntKind.i64 n3)))], [(Option.some (Go.Eng.HE.mk Bool.false (Go.Eng.HB.rows (Go.Sa.B.u8 l))))] => c_impl_Crypt_0 N s2 n1 b2 n2 n3 l (fun l7 => KL Go.Eng.Ex.normal [(Option.some (Go.Eng.AV.sc (Go.Eng.SV.slc 0 Option.none b2)))] [(Option.some (Go.Eng.HE.mk Bool.false (Go.Eng.HB.rows (Go.Sa.B.u8 l7))))])
  | _, _ => none
noncomputable def IT_impl_Crypt_0 (N : Nat) : Its E := addIt 0 (i_impl_Crypt_0 N) (IT_impl_Crypt_2 N)
theorem IT_impl_Crypt_0_ok (N : Nat) : ItOk (IT_impl_Crypt_0 N) 0 61 sl_impl_Crypt (lsB Go.Proofs.Try.f40 [0, 2]) :=
  addItB_ok (inner := [2]) ok (O_impl_Crypt_ok N) (jn_ok _ _ _) (IT_impl_Crypt_2_ok N) rfl (by kernel_rfl) rfl fun vs H KL r h => by
    unfold i_impl_Crypt_0 at h
    split at h
    · exact ⟨_, (le_impl_Crypt_0 N _ _ _ _ KL N _ _).trans h⟩
    · cases h
def g_impl_Crypt (N : Nat) {R : Type} (s : ByteArray) (n : Int) (s1 : ByteArray) (k : ByteArray → Option R) : Option R :=
  (oK (g_impl_ylongKey_w N Bool.false [s] fun b =>
    (cond b
    (some Bool.true)
    (g_impl_ybig_w N Bool.false [s1] fun b1 =>
      (some b1)))) fun j =>
  (cond j
  (k (ByteArray.mk (List.toArray [])))
  (c_impl_Crypt_0 N s n Bool.false (((List.length (Go.Eng.ofBytes s1)) : Nat) : Int) (0 : Int) (Go.Eng.ofBytes s1) fun l3 =>
    (cond (Nat.ble (0 + (List.length l3)) (List.length l3))
    (k (Go.Eng.toBytes (Go.Eng.seg l3 0 (List.length l3))))
    none))))
theorem e_impl_Crypt (N : Nat) {R : Type} (s : ByteArray) (n : Int) (s1 : ByteArray) (K : AV → Hp E → Option R) :
    runFnI (E := E) (O_impl_Crypt N) (IT_impl_Crypt_0 N) sl_impl_Crypt J_impl_Crypt Go.Proofs.Try.f40 [(Go.Eng.AV.sc (Go.Eng.SV.str s)), (Go.Eng.AV.sc (Go.Eng.SV.int Go.IntKind.i64 n)), (Go.Eng.AV.sc (Go.Eng.SV.str s1))] [] K =
      g_impl_Crypt N s n s1 (fun s7 => K (Go.Eng.AV.sc (Go.Eng.SV.str s7)) []) := by kernel_rfl
def o_impl_Crypt (N : Nat) {R : Type} (args : List AV) (H : Hp E) (K : AV → Hp E → Option R) : Option R :=
  match args, H with
  | [(Go.Eng.AV.sc (Go.Eng.SV.str s)), (Go.Eng.AV.sc (Go.Eng.SV.int Go.IntKind.i64 n)), (Go.Eng.AV.sc (Go.Eng.SV.str s1))], [] => g_impl_Crypt N s n s1 (fun s7 => K (Go.Eng.AV.sc (Go.Eng.SV.str s7)) [])
  | _, _ => none
theorem o_impl_Crypt_ok (N : Nat) : FnOk E 40 (o_impl_Crypt N) := by
  intro R args H K r h
  unfold o_impl_Crypt at h
  dsimp only at h
  split at h
  · exact fnB_ok (ids := [0, 2]) (top := [0]) ok (O_impl_Crypt_ok N) (jn_ok _ _ _) Go.Proofs.Try.func40 (by kernel_rfl) (IT := IT_impl_Crypt_0 N) (sl := sl_impl_Crypt) (J := J_impl_Crypt) (K := K) (H := []) (IT_impl_Crypt_0_ok N) (by kernel_rfl) rfl ((e_impl_Crypt N _ _ _ K).trans h)
  · cases h
/-! ### loop.example/g00038/impl.yopenVolume -/
abbrev sl_impl_yopenVolume_w : SlotT := [(0, ([1, 2, 10, 11, 12], [4, 5]))]
abbrev J_impl_yopenVolume_w : JT := jn [] [] []
noncomputable def O_impl_yopenVolume_w (N : Nat) : Orc E := addFn 40 (o_impl_Crypt N) (addFn 60 (o_impl_TagOf N) (noFn))
theorem O_impl_yopenVolume_w_ok (N : Nat) : OrcOk (O_impl_yopenVolume_w N) := addFn_ok (o_impl_Crypt_ok N) (addFn_ok (o_impl_TagOf_ok N) (noFn_ok))
def s_impl_yopenVolume_w_0 (N : Nat) {R : Type} (s2 : ByteArray) (b1 : Bool) (n : Int) (l1 : List Go.Sa.KeySlot) (b2 : Bool) (s3 : ByteArray) (n1 : Int) (ag : Int → Option R)  (kR : ByteArray → Option R) (kN : Option R) : Option R :=
  (cond (decide ((n1 < n)))
  (cond ((decide (((0 : Int) ≤ n1))) && (decide ((n1 < (((List.length l1) : Nat) : Int)))))
    (elemK l1 (Int.toNat n1) fun x =>
      (g_impl_TagOf N s2 (Go.Sa.KeySlot.fKey x) fun s4 =>
      (cond (!(decide ((s4 = (Go.Sa.KeySlot.fTag x)))))
      (ag (Go.IntKind.wrap Go.IntKind.i64 (n1 + (1 : Int))))
      (g_impl_Crypt N s2 (Go.Sa.KeySlot.fSalt x) (Go.Sa.KeySlot.fKey x) fun s5 =>
        (g_impl_TagOf N s5 (ByteArray.mk (List.toArray [])) fun s6 =>
        (cond (decide ((s6 = s3)))
        (kR s5)
        (ag (Go.IntKind.wrap Go.IntKind.i64 (n1 + (1 : Int))))))))))
    none)
  kN)
def l_impl_yopenVolume_w_0 (N : Nat) {R : Type} (s2 : ByteArray) (b1 : Bool) (n : Int) (l1 : List Go.Sa.KeySlot) (b2 : Bool) (s3 : ByteArray) (kR : ByteArray → Option R) (kN : Option R) : Nat → Int → Option R
  | 0, _ => none
  | f + 1, n1 => s_impl_yopenVolume_w_0 N s2 b1 n l1 b2 s3 n1 (fun n1 => l_impl_yopenVolume_w_0 N s2 b1 n l1 b2 s3 kR kN f n1)  kR kN
def c_impl_yopenVolume_w_0 (N : Nat) {R : Type} (s2 : ByteArray) (b1 : Bool) (n : Int) (l1 : List Go.Sa.KeySlot) (b2 : Bool) (s3 : ByteArray) (n1 : Int) (kR : ByteArray → Option R) (kN : Option R) : Option R := l_impl_yopenVolume_w_0 N s2 b1 n l1 b2 s3 kR kN N n1
theorem se_impl_yopenVolume_w_0 (N : Nat) {R : Type} (s2 : ByteArray) (b1 : Bool) (n : Int) (l1 : List Go.Sa.KeySlot) (b2 : Bool) (s3 : ByteArray) (n1 : Int) (AG : List (Option AV) → Hp E → Option R) (KL : Ex → List (Option AV) → Hp E → Option R) :
    iterStep (E := E) (O_impl_yopenVolume_w N) (fun {R} => LI (noIt) 1 36 sl_impl_yopenVolume_w (R := R)) J_impl_yopenVolume_w 1 36 0 [1, 2, 10, 11, 12] [4, 5] (body Go.Proofs.Try.f87 0) AG KL [(Option.some (Go.Eng.AV.sc (Go.Eng.SV.str s2))), (Option.some (Go.Eng.AV.sc (Go.Eng.SV.ptr 1 0 0))), (Option.some (Go.Eng.AV.sc (Go.Eng.SV.slc 0 Option.none b1))), (Option.some (Go.Eng.AV.sc (Go.Eng.SV.int Go.IntKind.i64 n))), (Option.some (Go.Eng.AV.sc (Go.Eng.SV.int Go.IntKind.i64 n1)))] [(Option.some (Go.Eng.HE.mk Bool.false (Go.Eng.HB.rows (Go.Sa.B.iKeySlot l1)))), (Option.some (Go.Eng.HE.mk Bool.false (Go.Eng.HB.exp Option.none [(Go.Eng.SV.slc 0 Option.none b2), (Go.Eng.SV.str s3)])))] =
      s_impl_yopenVolume_w_0 N s2 b1 n l1 b2 s3 n1 (fun n1 => AG [(Option.some (Go.Eng.AV.sc (Go.Eng.SV.str s2))), (Option.some (Go.Eng.AV.sc (Go.Eng.SV.ptr 1 0 0))), (Option.some (Go.Eng.AV.sc (Go.Eng.SV.slc 0 Option.none b1))), (Option.some (Go.Eng.AV.sc (Go.Eng.SV.int Go.IntKind.i64 n))), (Option.some (Go.Eng.AV.sc (Go.Eng.SV.int Go.IntKind.i64 n1)))] [(Option.some (Go.Eng.HE.mk Bool.false (Go.Eng.HB.rows (Go.Sa.B.iKeySlot l1)))), (Option.some (Go.Eng.HE.mk Bool.false (Go.Eng.HB.exp Option.none [(Go.Eng.SV.slc 0 Option.none b2), (Go.Eng.SV.str s3)])))])  (fun s9 => KL Go.Eng.Ex.ret [(Option.some (Go.Eng.AV.sc (Go.Eng.SV.str s9))), (Option.some (Go.Eng.AV.sc (Go.Eng.SV.bool Bool.true)))] [(Option.some (Go.Eng.HE.mk Bool.false (Go.Eng.HB.rows (Go.Sa.B.iKeySlot l1))))]) (KL Go.Eng.Ex.normal [Option.none, Option.none] [(Option.some (Go.Eng.HE.mk Bool.false (Go.Eng.HB.rows (Go.Sa.B.iKeySlot l1))))]) := by kernel_rfl
theorem le_impl_yopenVolume_w_0 (N : Nat) {R : Type} (s2 : ByteArray) (b1 : Bool) (n : Int) (l1 : List Go.Sa.KeySlot) (b2 : Bool) (s3 : ByteArray) (KL : Ex → List (Option AV) → Hp E → Option R) : ∀ (f : Nat), ∀ (n1 : Int), iterK (E := E) (O_impl_yopenVolume_w N) (fun {R} => LI (noIt) 1 36 sl_impl_yopenVolume_w (R := R)) J_impl_yopenVolume_w 1 36 0 [1, 2, 10, 11, 12] [4, 5] (body Go.Proofs.Try.f87 0) f [(Option.some (Go.Eng.AV.sc (Go.Eng.SV.str s2))), (Option.some (Go.Eng.AV.sc (Go.Eng.SV.ptr 1 0 0))), (Option.some (Go.Eng.AV.sc (Go.Eng.SV.slc 0 Option.none b1))), (Option.some (Go.Eng.AV.sc (Go.Eng.SV.int Go.IntKind.i64 n))), (Option.some (Go.Eng.AV.sc (Go.Eng.SV.int Go.IntKind.i64 n1)))] [(Option.some (Go.Eng.HE.mk Bool.false (Go.Eng.HB.rows (Go.Sa.B.iKeySlot l1)))), (Option.some (Go.Eng.HE.mk Bool.false (Go.Eng.HB.exp Option.none [(Go.Eng.SV.slc 0 Option.none b2), (Go.Eng.SV.str s3)])))] KL = l_impl_yopenVolume_w_0 N s2 b1 n l1 b2 s3 (fun s9 => KL Go.Eng.Ex.ret [(Option.some (Go.Eng.AV.sc (Go.Eng.SV.str s9))), (Option.some (Go.Eng.AV.sc (Go.Eng.SV.bool Bool.true)))] [(Option.some (Go.Eng.HE.mk Bool.false (Go.Eng.HB.rows (Go.Sa.B.iKeySlot l1))))]) (KL Go.Eng.Ex.normal [Option.none, Option.none] [(Option.some (Go.Eng.HE.mk Bool.false (Go.Eng.HB.rows (Go.Sa.B.iKeySlot l1))))]) f n1 := by
  intro f
  induction f with
  | zero => intros; rfl
  | succ f ih =>
    intro n1
    rw [iterK_succ, se_impl_yopenVolume_w_0]
    exact (congrArg (fun z0 => s_impl_yopenVolume_w_0 N s2 b1 n l1 b2 s3 n1 z0 (fun s9 => KL Go.Eng.Ex.ret [(Option.some (Go.Eng.AV.sc (Go.Eng.SV.str s9))), (Option.some (Go.Eng.AV.sc (Go.Eng.SV.bool Bool.true)))] [(Option.some (Go.Eng.HE.mk Bool.false (Go.Eng.HB.rows (Go.Sa.B.iKeySlot l1))))]) (KL Go.Eng.Ex.normal [Option.none, Option.none] [(Option.some (Go.Eng.HE.mk Bool.false (Go.Eng.HB.rows (Go.Sa.B.iKeySlot l1))))])) (funext fun n1 => ih n1))
def i_impl_yopenVolume_w_0 (N : Nat) {R : Type} (vs : List (Option AV)) (H : Hp E) (KL : Ex → List (Option AV) → Hp E → Option R) : Option R :=
  match vs, H with
  | [(Option.some (Go.Eng.AV.sc (Go.Eng.SV.str s2))), (Option.some (Go.Eng.AV.sc (Go.Eng.SV.ptr 1 0 0))), (Option.some (Go.Eng.AV.sc (Go.Eng.SV.slc 0 Option.none b1))), (Option.some (Go.Eng.AV.sc (Go.Eng.SV.int Go.IntKind.i64 n))), (Option.some (Go.Eng.AV.sc (Go.Eng.SV.int Go.IntKind.i64 n1)))], [(Option.some (Go.Eng.HE.mk Bool.false (Go.Eng.HB.rows (Go.Sa.B.iKeySlot l1)))), (Option.some (Go.Eng.HE.mk Bool.false (Go.Eng.HB.exp Option.none [(Go.Eng.SV.slc 0 Option.none b2), (Go.Eng.SV.str s3)])))] => c_impl_yopenVolume_w_0 N s2 b1 n l1 b2 s3 n1 (fun s10 => KL Go.Eng.Ex.ret [(Option.some (Go.Eng.AV.sc (Go.Eng.SV.str s10))), (Option.some (Go.Eng.AV.sc (Go.Eng.SV.bool Bool.true)))] [(Option.some (Go.Eng.HE.mk Bool.false (Go.Eng.HB.rows (Go.Sa.B.iKeySlot l1))))]) (KL Go.Eng.Ex.normal [Option.none, Option.none] [(Option.some (Go.Eng.HE.mk Bool.false (Go.Eng.HB.rows (Go.Sa.B.iKeySlot l1))))])
  | _, _ => none
noncomputable def IT_impl_yopenVolume_w_0 (N : Nat) : Its E := addIt 0 (i_impl_yopenVolume_w_0 N) (noIt)
theorem IT_impl_yopenVolume_w_0_ok (N : Nat) : ItOk (IT_impl_yopenVolume_w_0 N) 1 36 sl_impl_yopenVolume_w (lsB Go.Proofs.Try.f87 [0]) :=
  addItB_ok (inner := []) ok (O_impl_yopenVolume_w_ok N) (jn_ok _ _ _) (noIt_ok) rfl (by kernel_rfl) rfl fun vs H KL r h => by
    unfold i_impl_yopenVolume_w_0 at h
    split at h
    · exact ⟨_, (le_impl_yopenVolume_w_0 N _ _ _ _ _ _ KL N _).trans h⟩
    · cases h
def g_impl_yopenVolume_w (N : Nat) {R : Type} (b : Bool) (s : ByteArray) (s1 : ByteArray) (l : List Go.Sa.KeySlot) (k : ByteArray → Bool → Option R) : Option R :=
  (c_impl_yopenVolume_w_0 N s1 b (((List.length l) : Nat) : Int) l b s (0 : Int) (fun s7 =>
  (k s7 Bool.true)) (
  (k (ByteArray.mk (List.toArray [])) Bool.false)))
theorem e_impl_yopenVolume_w (N : Nat) {R : Type} (b : Bool) (s : ByteArray) (s1 : ByteArray) (l : List Go.Sa.KeySlot) (K : AV → Hp E → Option R) :
    runFnI (E := E) (O_impl_yopenVolume_w N) (IT_impl_yopenVolume_w_0 N) sl_impl_yopenVolume_w J_impl_yopenVolume_w Go.Proofs.Try.f87 [(Go.Eng.AV.agg [(Go.Eng.SV.slc 0 Option.none b), (Go.Eng.SV.str s)]), (Go.Eng.AV.sc (Go.Eng.SV.str s1))] [(Option.some (Go.Eng.HE.mk Bool.false (Go.Eng.HB.rows (Go.Sa.B.iKeySlot l))))] K =
      g_impl_yopenVolume_w N b s s1 l (fun s8 b3 => K (Go.Eng.AV.tup [(Bool.false, [(Go.Eng.SV.str s8)]), (Bool.false, [(Go.Eng.SV.bool b3)])]) [(Option.some (Go.Eng.HE.mk Bool.false (Go.Eng.HB.rows (Go.Sa.B.iKeySlot l))))]) := by kernel_rfl
def o_impl_yopenVolume_w (N : Nat) {R : Type} (args : List AV) (H : Hp E) (K : AV → Hp E → Option R) : Option R :=
  match args, H with
  | [(Go.Eng.AV.agg [(Go.Eng.SV.slc 0 Option.none b), (Go.Eng.SV.str s)]), (Go.Eng.AV.sc (Go.Eng.SV.str s1))], [(Option.some (Go.Eng.HE.mk Bool.false (Go.Eng.HB.rows (Go.Sa.B.iKeySlot l))))] => g_impl_yopenVolume_w N b s s1 l (fun s8 b3 => K (Go.Eng.AV.tup [(Bool.false, [(Go.Eng.SV.str s8)]), (Bool.false, [(Go.Eng.SV.bool b3)])]) [(Option.some (Go.Eng.HE.mk Bool.false (Go.Eng.HB.rows (Go.Sa.B.iKeySlot l))))])
  | _, _ => none
theorem o_impl_yopenVolume_w_ok (N : Nat) : FnOk E 87 (o_impl_yopenVolume_w N) := by
  intro R args H K r h
  unfold o_impl_yopenVolume_w at h
  dsimp only at h
  split at h
  · exact fnB_ok (ids := [0]) (top := [0]) ok (O_impl_yopenVolume_w_ok N) (jn_ok _ _ _) Go.Proofs.Try.func87 (by kernel_rfl) (IT := IT_impl_yopenVolume_w_0 N) (sl := sl_impl_yopenVolume_w) (J := J_impl_yopenVolume_w) (K := K) (H := [(Option.some (Go.Eng.HE.mk Bool.false (Go.Eng.HB.rows (Go.Sa.B.iKeySlot _))))]) (IT_impl_yopenVolume_w_0_ok N) (by kernel_rfl) rfl ((e_impl_yopenVolume_w N _ _ _ _ K).trans h)
  · cases h
/-! ### slices.Clone[[]loop.example/g00038/impl.KeySlot,loop.example/g00038/impl.KeySlot] -/
abbrev sl_slices_Clone_KeySlot_r : SlotT := []
abbrev J_slices_Clone_KeySlot_r : JT := jn [] [] []
noncomputable def O_slices_Clone_KeySlot_r (N : Nat) : Orc E := noFn
theorem O_slices_Clone_KeySlot_r_ok (N : Nat) : OrcOk (O_slices_Clone_KeySlot_r N) := noFn_ok
def g_slices_Clone_KeySlot_r (N : Nat) {R : Type} (b : Bool) (l : List Go.Sa.KeySlot) (k : Bool → (List Go.Sa.KeySlot) → Option R) : Option R :=
  (cond b
  (k Bool.true [])
  (cond (Go.Eng.roomOk (0 + (List.length l)) 40)
    (k (cond (Nat.beq (List.length l) 0) Bool.false Bool.false) ([] ++ l))
    none))
theorem e_slices_Clone_KeySlot_r (N : Nat) {R : Type} (b : Bool) (l : List Go.Sa.KeySlot) (K : AV → Hp E → Option R) :
    runFnI (E := E) (O_slices_Clone_KeySlot_r N) (noIt) sl_slices_Clone_KeySlot_r J_slices_Clone_KeySlot_r Go.Proofs.Try.f101 [(Go.Eng.AV.sc (Go.Eng.SV.slc 0 Option.none b))] [(Option.some (Go.Eng.HE.mk Bool.true (Go.Eng.HB.rows (Go.Sa.B.iKeySlot l))))] K =
      g_slices_Clone_KeySlot_r N b l (fun b1 l1 => K (Go.Eng.AV.sc (Go.Eng.SV.slc 1 Option.none b1)) [(Option.some (Go.Eng.HE.mk Bool.true (Go.Eng.HB.rows (Go.Sa.B.iKeySlot l)))), (Option.some (Go.Eng.HE.mk Bool.false (Go.Eng.HB.rows (Go.Sa.B.iKeySlot l1))))]) := by kernel_rfl
def o_slices_Clone_KeySlot_r (N : Nat) {R : Type} (args : List AV) (H : Hp E) (K : AV → Hp E → Option R) : Option R :=
  match args, H with
  | [(Go.Eng.AV.sc (Go.Eng.SV.slc 0 Option.none b))], [(Option.some (Go.Eng.HE.mk Bool.true (Go.Eng.HB.rows (Go.Sa.B.iKeySlot l))))] => g_slices_Clone_KeySlot_r N b l (fun b1 l1 => K (Go.Eng.AV.sc (Go.Eng.SV.slc 1 Option.none b1)) [(Option.some (Go.Eng.HE.mk Bool.true (Go.Eng.HB.rows (Go.Sa.B.iKeySlot l)))), (Option.some (Go.Eng.HE.mk Bool.false (Go.Eng.HB.rows (Go.Sa.B.iKeySlot l1))))])
  | _, _ => none
theorem o_slices_Clone_KeySlot_r_ok (N : Nat) : FnOk E 101 (o_slices_Clone_KeySlot_r N) := by
  intro R args H K r h
  unfold o_slices_Clone_KeySlot_r at h
  dsimp only at h
  split at h
  · exact fnB_ok (ids := []) (top := []) ok (O_slices_Clone_KeySlot_r_ok N) (jn_ok _ _ _) Go.Proofs.Try.func101 (by kernel_rfl) (IT := noIt) (sl := sl_slices_Clone_KeySlot_r) (J := J_slices_Clone_KeySlot_r) (K := K) (H := [(Option.some (Go.Eng.HE.mk Bool.true (Go.Eng.HB.rows (Go.Sa.B.iKeySlot _))))]) (noIt_ok) (by kernel_rfl) rfl ((e_slices_Clone_KeySlot_r N _ _ K).trans h)
  · cases h
/-! ### loop.example/g00038/impl.yslot -/
abbrev sl_impl_yslot : SlotT := []
abbrev J_impl_yslot : JT := jn [] [] []
noncomputable def O_impl_yslot (N : Nat) : Orc E := addFn 60 (o_impl_TagOf N) (addFn 40 (o_impl_Crypt N) (noFn))
theorem O_impl_yslot_ok (N : Nat) : OrcOk (O_impl_yslot N) := addFn_ok (o_impl_TagOf_ok N) (addFn_ok (o_impl_Crypt_ok N) (noFn_ok))
def g_impl_yslot (N : Nat) {R : Type} (s : ByteArray) (s1 : ByteArray) (n : Int) (k : ByteArray → ByteArray → Option R) : Option R :=
  (g_impl_Crypt N s1 n s fun s2 =>
  (g_impl_TagOf N s1 s2 fun s3 =>
  (k s2 s3)))
theorem e_impl_yslot (N : Nat) {R : Type} (s : ByteArray) (s1 : ByteArray) (n : Int) (K : AV → Hp E → Option R) :
    runFnI (E := E) (O_impl_yslot N) (noIt) sl_impl_yslot J_impl_yslot Go.Proofs.Try.f81 [(Go.Eng.AV.sc (Go.Eng.SV.str s)), (Go.Eng.AV.sc (Go.Eng.SV.str s1)), (Go.Eng.AV.sc (Go.Eng.SV.int Go.IntKind.i64 n))] [] K =
      g_impl_yslot N s s1 n (fun s4 s5 => K (Go.Eng.AV.agg [(Go.Eng.SV.int Go.IntKind.i64 n), (Go.Eng.SV.str s4), (Go.Eng.SV.str s5)]) []) := by kernel_rfl
def o_impl_yslot (N : Nat) {R : Type} (args : List AV) (H : Hp E) (K : AV → Hp E → Option R) : Option R :=
  match args, H with
  | [(Go.Eng.AV.sc (Go.Eng.SV.str s)), (Go.Eng.AV.sc (Go.Eng.SV.str s1)), (Go.Eng.AV.sc (Go.Eng.SV.int Go.IntKind.i64 n))], [] => g_impl_yslot N s s1 n (fun s4 s5 => K (Go.Eng.AV.agg [(Go.Eng.SV.int Go.IntKind.i64 n), (Go.Eng.SV.str s4), (Go.Eng.SV.str s5)]) [])
  | _, _ => none
theorem o_impl_yslot_ok (N : Nat) : FnOk E 81 (o_impl_yslot N) := by
  intro R args H K r h
  unfold o_impl_yslot at h
  dsimp only at h
  split at h
  · exact fnB_ok (ids := []) (top := []) ok (O_impl_yslot_ok N) (jn_ok _ _ _) Go.Proofs.Try.func81 (by kernel_rfl) (IT := noIt) (sl := sl_impl_yslot) (J := J_impl_yslot) (K := K) (H := []) (noIt_ok) (by kernel_rfl) rfl ((e_impl_yslot N _ _ _ K).trans h)
  · cases h
/-! ### loop.example/g00038/impl.AddPass -/
abbrev sl_impl_AddPass_w : SlotT := []
abbrev J_impl_AddPass_w : JT := jn [] [] [(12, [8])]
noncomputable def O_impl_AddPass_w (N : Nat) : Orc E := addFn 81 (o_impl_yslot N) (addFn 101 (o_slices_Clone_KeySlot_r N) (addFn 80 (o_impl_yisWord N) (addFn 87 (o_impl_yopenVolume_w N) (addFn 86 (o_impl_VolumeFault_w N) (addFn 57 (o_impl_ylongKey_w N) (noFn))))))
theorem O_impl_AddPass_w_ok (N : Nat) : OrcOk (O_impl_AddPass_w N) := addFn_ok (o_impl_yslot_ok N) (addFn_ok (o_slices_Clone_KeySlot_r_ok N) (addFn_ok (o_impl_yisWord_ok N) (addFn_ok (o_impl_yopenVolume_w_ok N) (addFn_ok (o_impl_VolumeFault_w_ok N) (addFn_ok (o_impl_ylongKey_w_ok N) (noFn_ok))))))
def g_impl_AddPass_w (N : Nat) {R : Type} (b : Bool) (s : ByteArray) (s1 : ByteArray) (s2 : ByteArray) (n : Int) (l : List Go.Sa.KeySlot) (k : Int → Bool → ByteArray → (List Go.Sa.KeySlot) → Option R) : Option R :=
  (g_impl_ylongKey_w N Bool.false [s1, s2] fun b1 =>
  (cond b1
  (k (2 : Int) Bool.true (ByteArray.mk (List.toArray [])) [])
  (g_impl_VolumeFault_w N b s l fun n1 =>
    (cond (n1 != (0 : Int))
    (k (1 : Int) Bool.true (ByteArray.mk (List.toArray [])) [])
    (g_impl_yopenVolume_w N b s s1 l fun s3 b2 =>
      (cond (!b2)
      (k (7 : Int) Bool.true (ByteArray.mk (List.toArray [])) [])
      (g_impl_yisWord N n fun b3 =>
        (cond (!b3)
        (k (1 : Int) Bool.true (ByteArray.mk (List.toArray [])) [])
        (cond ((((List.length l) : Nat) : Int) == (4 : Int))
          (k (4 : Int) Bool.true (ByteArray.mk (List.toArray [])) [])
          (g_slices_Clone_KeySlot_r N b l fun b4 l1 =>
            (g_impl_yslot N s3 s2 n fun s4 s5 =>
            (cond (Go.Eng.roomOk ((List.length l1) + (List.length [(Go.Sa.KeySlot.mk n s4 s5)])) 40)
            (k (0 : Int) (cond (Nat.beq (List.length [(Go.Sa.KeySlot.mk n s4 s5)]) 0) b4 Bool.false) s (l1 ++ [(Go.Sa.KeySlot.mk n s4 s5)]))
            none))))))))))))
theorem e_impl_AddPass_w (N : Nat) {R : Type} (b : Bool) (s : ByteArray) (s1 : ByteArray) (s2 : ByteArray) (n : Int) (l : List Go.Sa.KeySlot) (K : AV → Hp E → Option R) :
    runFnI (E := E) (O_impl_AddPass_w N) (noIt) sl_impl_AddPass_w J_impl_AddPass_w Go.Proofs.Try.f50 [(Go.Eng.AV.agg [(Go.Eng.SV.slc 0 Option.none b), (Go.Eng.SV.str s)]), (Go.Eng.AV.sc (Go.Eng.SV.str s1)), (Go.Eng.AV.sc (Go.Eng.SV.str s2)), (Go.Eng.AV.sc (Go.Eng.SV.int Go.IntKind.i64 n))] [(Option.some (Go.Eng.HE.mk Bool.false (Go.Eng.HB.rows (Go.Sa.B.iKeySlot l))))] K =
      g_impl_AddPass_w N b s s1 s2 n l (fun n2 b5 s6 l2 => K (Go.Eng.AV.agg [(Go.Eng.SV.int Go.IntKind.i64 n2), (Go.Eng.SV.slc 1 Option.none b5), (Go.Eng.SV.str s6)]) [(Option.some (Go.Eng.HE.mk Bool.false (Go.Eng.HB.rows (Go.Sa.B.iKeySlot l)))), (Option.some (Go.Eng.HE.mk Bool.false (Go.Eng.HB.rows (Go.Sa.B.iKeySlot l2))))]) := by kernel_rfl
def o_impl_AddPass_w (N : Nat) {R : Type} (args : List AV) (H : Hp E) (K : AV → Hp E → Option R) : Option R :=
  match args, H with
  | [(Go.Eng.AV.agg [(Go.Eng.SV.slc 0 Option.none b), (Go.Eng.SV.str s)]), (Go.Eng.AV.sc (Go.Eng.SV.str s1)), (Go.Eng.AV.sc (Go.Eng.SV.str s2)), (Go.Eng.AV.sc (Go.Eng.SV.int Go.IntKind.i64 n))], [(Option.some (Go.Eng.HE.mk Bool.false (Go.Eng.HB.rows (Go.Sa.B.iKeySlot l))))] => g_impl_AddPass_w N b s s1 s2 n l (fun n2 b5 s6 l2 => K (Go.Eng.AV.agg [(Go.Eng.SV.int Go.IntKind.i64 n2), (Go.Eng.SV.slc 1 Option.none b5), (Go.Eng.SV.str s6)]) [(Option.some (Go.Eng.HE.mk Bool.false (Go.Eng.HB.rows (Go.Sa.B.iKeySlot l)))), (Option.some (Go.Eng.HE.mk Bool.false (Go.Eng.HB.rows (Go.Sa.B.iKeySlot l2))))])
  | _, _ => none
theorem o_impl_AddPass_w_ok (N : Nat) : FnOk E 50 (o_impl_AddPass_w N) := by
  intro R args H K r h
  unfold o_impl_AddPass_w at h
  dsimp only at h
  split at h
  · exact fnB_ok (ids := []) (top := []) ok (O_impl_AddPass_w_ok N) (jn_ok _ _ _) Go.Proofs.Try.func50 (by kernel_rfl) (IT := noIt) (sl := sl_impl_AddPass_w) (J := J_impl_AddPass_w) (K := K) (H := [(Option.some (Go.Eng.HE.mk Bool.false (Go.Eng.HB.rows (Go.Sa.B.iKeySlot _))))]) (noIt_ok) (by kernel_rfl) rfl ((e_impl_AddPass_w N _ _ _ _ _ _ K).trans h)
  · cases h
/-! ### loop.example/g00038/laws.eqKeySlot -/
abbrev sl_laws_eqKeySlot : SlotT := []
abbrev J_laws_eqKeySlot : JT := jn [] [] []
noncomputable def O_laws_eqKeySlot (N : Nat) : Orc E := noFn
theorem O_laws_eqKeySlot_ok (N : Nat) : OrcOk (O_laws_eqKeySlot N) := noFn_ok
def g_laws_eqKeySlot (N : Nat) {R : Type} (n : Int) (s : ByteArray) (s1 : ByteArray) (n1 : Int) (s2 : ByteArray) (s3 : ByteArray) (k : Bool → Option R) : Option R :=
  (cond (n != n1)
  (k Bool.false)
  (cond (!(decide ((s = s2))))
    (k Bool.false)
    (cond (!(decide ((s1 = s3))))
      (k Bool.false)
      (k Bool.true))))
theorem e_laws_eqKeySlot (N : Nat) {R : Type} (n : Int) (s : ByteArray) (s1 : ByteArray) (n1 : Int) (s2 : ByteArray) (s3 : ByteArray) (K : AV → Hp E → Option R) :
    runFnI (E := E) (O_laws_eqKeySlot N) (noIt) sl_laws_eqKeySlot J_laws_eqKeySlot Go.Proofs.Try.f119 [(Go.Eng.AV.agg [(Go.Eng.SV.int Go.IntKind.i64 n), (Go.Eng.SV.str s), (Go.Eng.SV.str s1)]), (Go.Eng.AV.agg [(Go.Eng.SV.int Go.IntKind.i64 n1), (Go.Eng.SV.str s2), (Go.Eng.SV.str s3)])] [] K =
      g_laws_eqKeySlot N n s s1 n1 s2 s3 (fun b => K (Go.Eng.AV.sc (Go.Eng.SV.bool b)) []) := by kernel_rfl
def o_laws_eqKeySlot (N : Nat) {R : Type} (args : List AV) (H : Hp E) (K : AV → Hp E → Option R) : Option R :=
  match args, H with
  | [(Go.Eng.AV.agg [(Go.Eng.SV.int Go.IntKind.i64 n), (Go.Eng.SV.str s), (Go.Eng.SV.str s1)]), (Go.Eng.AV.agg [(Go.Eng.SV.int Go.IntKind.i64 n1), (Go.Eng.SV.str s2), (Go.Eng.SV.str s3)])], [] => g_laws_eqKeySlot N n s s1 n1 s2 s3 (fun b => K (Go.Eng.AV.sc (Go.Eng.SV.bool b)) [])
  | _, _ => none
theorem o_laws_eqKeySlot_ok (N : Nat) : FnOk E 119 (o_laws_eqKeySlot N) := by
  intro R args H K r h
  unfold o_laws_eqKeySlot at h
  dsimp only at h
  split at h
  · exact fnB_ok (ids := []) (top := []) ok (O_laws_eqKeySlot_ok N) (jn_ok _ _ _) Go.Proofs.Try.func119 (by kernel_rfl) (IT := noIt) (sl := sl_laws_eqKeySlot) (J := J_laws_eqKeySlot) (K := K) (H := []) (noIt_ok) (by kernel_rfl) rfl ((e_laws_eqKeySlot N _ _ _ _ _ _ K).trans h)
  · cases h
/-! ### loop.example/g00038/laws.eqKeySlotS -/
abbrev sl_laws_eqKeySlotS_ww : SlotT := [(0, ([0, 1, 5], [4]))]
abbrev J_laws_eqKeySlotS_ww : JT := jn [] [] []
noncomputable def O_laws_eqKeySlotS_ww (N : Nat) : Orc E := addFn 119 (o_laws_eqKeySlot N) (noFn)
theorem O_laws_eqKeySlotS_ww_ok (N : Nat) : OrcOk (O_laws_eqKeySlotS_ww N) := addFn_ok (o_laws_eqKeySlot_ok N) (noFn_ok)
def s_laws_eqKeySlotS_ww_0 (N : Nat) {R : Type} (b2 : Bool) (b3 : Bool) (l2 : List Go.Sa.KeySlot) (l3 : List Go.Sa.KeySlot) (n : Int) (ag : Int → Option R)  (kR : Option R) (kN : Option R) : Option R :=
  (cond (decide ((n < (((List.length l2) : Nat) : Int))))
  (cond ((decide (((0 : Int) ≤ n))) && (decide ((n < (((List.length l2) : Nat) : Int)))))
    (elemK l2 (Int.toNat n) fun x =>
      (cond ((decide (((0 : Int) ≤ n))) && (decide ((n < (((List.length l3) : Nat) : Int)))))
      (elemK l3 (Int.toNat n) fun x1 =>
        (g_laws_eqKeySlot N (Go.Sa.KeySlot.fSalt x) (Go.Sa.KeySlot.fKey x) (Go.Sa.KeySlot.fTag x) (Go.Sa.KeySlot.fSalt x1) (Go.Sa.KeySlot.fKey x1) (Go.Sa.KeySlot.fTag x1) fun b4 =>
        (cond (!b4)
        kR
        (ag (Go.IntKind.wrap Go.IntKind.i64 (n + (1 : Int)))))))
      none))
    none)
  kN)
def l_laws_eqKeySlotS_ww_0 (N : Nat) {R : Type} (b2 : Bool) (b3 : Bool) (l2 : List Go.Sa.KeySlot) (l3 : List Go.Sa.KeySlot) (kR : Option R) (kN : Option R) : Nat → Int → Option R
  | 0, _ => none
  | f + 1, n => s_laws_eqKeySlotS_ww_0 N b2 b3 l2 l3 n (fun n => l_laws_eqKeySlotS_ww_0 N b2 b3 l2 l3 kR kN f n)  kR kN
def c_laws_eqKeySlotS_ww_0 (N : Nat) {R : Type} (b2 : Bool) (b3 : Bool) (l2 : List Go.Sa.KeySlot) (l3 : List Go.Sa.KeySlot) (n : Int) (kR : Option R) (kN : Option R) : Option R := l_laws_eqKeySlotS_ww_0 N b2 b3 l2 l3 kR kN N n
theorem se_laws_eqKeySlotS_ww_0 (N : Nat) {R : Type} (b2 : Bool) (b3 : Bool) (l2 : List Go.Sa.KeySlot) (l3 : List Go.Sa.KeySlot) (n : Int) (AG : List (Option AV) → Hp E → Option R) (KL : Ex → List (Option AV) → Hp E → Option R) :
    iterStep (E := E) (O_laws_eqKeySlotS_ww N) (fun {R} => LI (noIt) 2 27 sl_laws_eqKeySlotS_ww (R := R)) J_laws_eqKeySlotS_ww 2 27 0 [0, 1, 5] [4] (body Go.Proofs.Try.f88 0) AG KL [(Option.some (Go.Eng.AV.sc (Go.Eng.SV.slc 0 Option.none b2))), (Option.some (Go.Eng.AV.sc (Go.Eng.SV.slc 1 Option.none b3))), (Option.some (Go.Eng.AV.sc (Go.Eng.SV.int Go.IntKind.i64 n)))] [(Option.some (Go.Eng.HE.mk Bool.false (Go.Eng.HB.rows (Go.Sa.B.iKeySlot l2)))), (Option.some (Go.Eng.HE.mk Bool.false (Go.Eng.HB.rows (Go.Sa.B.iKeySlot l3))))] =
      s_laws_eqKeySlotS_ww_0 N b2 b3 l2 l3 n (fun n => AG [(Option.some (Go.Eng.AV.sc (Go.Eng.SV.slc 0 Option.none b2))), (Option.some (Go.Eng.AV.sc (Go.Eng.SV.slc 1 Option.none b3))), (Option.some (Go.Eng.AV.sc (Go.Eng.SV.int Go.IntKind.i64 n)))] [(Option.some (Go.Eng.HE.mk Bool.false (Go.Eng.HB.rows (Go.Sa.B.iKeySlot l2)))), (Option.some (Go.Eng.HE.mk Bool.false (Go.Eng.HB.rows (Go.Sa.B.iKeySlot l3))))])  (KL Go.Eng.Ex.ret [(Option.some (Go.Eng.AV.sc (Go.Eng.SV.bool Bool.false)))] [(Option.some (Go.Eng.HE.mk Bool.false (Go.Eng.HB.rows (Go.Sa.B.iKeySlot l2)))), (Option.some (Go.Eng.HE.mk Bool.false (Go.Eng.HB.rows (Go.Sa.B.iKeySlot l3))))]) (KL Go.Eng.Ex.normal [Option.none] [(Option.some (Go.Eng.HE.mk Bool.false (Go.Eng.HB.rows (Go.Sa.B.iKeySlot l2)))), (Option.some (Go.Eng.HE.mk Bool.false (Go.Eng.HB.rows (Go.Sa.B.iKeySlot l3))))]) := by kernel_rfl
theorem le_laws_eqKeySlotS_ww_0 (N : Nat) {R : Type} (b2 : Bool) (b3 : Bool) (l2 : List Go.Sa.KeySlot) (l3 : List Go.Sa.KeySlot) (KL : Ex → List (Option AV) → Hp E → Option R) : ∀ (f : Nat), ∀ (n : Int), iterK (E := E) (O_laws_eqKeySlotS_ww N) (fun {R} => LI (noIt) 2 27 sl_laws_eqKeySlotS_ww (R := R)) J_laws_eqKeySlotS_ww 2 27 0 [0, 1, 5] [4] (body Go.Proofs.Try.f88 0) f [(Option.some (Go.Eng.AV.sc (Go.Eng.SV.slc 0 Option.none b2))), (Option.some (Go.Eng.AV.sc (Go.Eng.SV.slc 1 Option.none b3))), (Option.some (Go.Eng.AV.sc (Go.Eng.SV.int Go.IntKind.i64 n)))] [(Option.some (Go.Eng.HE.mk Bool.false (Go.Eng.HB.rows (Go.Sa.B.iKeySlot l2)))), (Option.some (Go.Eng.HE.mk Bool.false (Go.Eng.HB.rows (Go.Sa.B.iKeySlot l3))))] KL = l_laws_eqKeySlotS_ww_0 N b2 b3 l2 l3 (KL Go.Eng.Ex.ret [(Option.some (Go.Eng.AV.sc (Go.Eng.SV.bool Bool.false)))] [(Option.some (Go.Eng.HE.mk Bool.false (Go.Eng.HB.rows (Go.Sa.B.iKeySlot l2)))), (Option.some (Go.Eng.HE.mk Bool.false (Go.Eng.HB.rows (Go.Sa.B.iKeySlot l3))))]) (KL Go.Eng.Ex.normal [Option.none] [(Option.some (Go.Eng.HE.mk Bool.false (Go.Eng.HB.rows (Go.Sa.B.iKeySlot l2)))), (Option.some (Go.Eng.HE.mk Bool.false (Go.Eng.HB.rows (Go.Sa.B.iKeySlot l3))))]) f n := by
  intro f
  induction f with
  | zero => intros; rfl
  | succ f ih =>
    intro n
    rw [iterK_succ, se_laws_eqKeySlotS_ww_0]
    exact (congrArg (fun z0 => s_laws_eqKeySlotS_ww_0 N b2 b3 l2 l3 n z0 (KL Go.Eng.Ex.ret [(Option.some (Go.Eng.AV.sc (Go.Eng.SV.bool Bool.false)))] [(Option.some (Go.Eng.HE.mk Bool.false (Go.Eng.HB.rows (Go.Sa.B.iKeySlot l2)))), (Option.some (Go.Eng.HE.mk Bool.false (Go.Eng.HB.rows (Go.Sa.B.iKeySlot l3))))]) (KL Go.Eng.Ex.normal [Option.none] [(Option.some (Go.Eng.HE.mk Bool.false (Go.Eng.HB.rows (Go.Sa.B.iKeySlot l2)))), (Option.some (Go.Eng.HE.mk Bool.false (Go.Eng.HB.rows (Go.Sa.B.iKeySlot l3))))])) (funext fun n => ih n))
def i_laws_eqKeySlotS_ww_0 (N : Nat) {R : Type} (vs : List (Option AV)) (H : Hp E) (KL : Ex → List (Option AV) → Hp E → Option R) : Option R :=
  match vs, H with
  | [(Option.some (Go.Eng.AV.sc (Go.Eng.SV.slc 0 Option.none b2))), (Option.some (Go.Eng.AV.sc (Go.Eng.SV.slc 1 Option.none b3))), (Option.some (Go.Eng.AV.sc (Go.Eng.SV.int Go.IntKind.i64 n)))], [(Option.some (Go.Eng.HE.mk Bool.false (Go.Eng.HB.rows (Go.Sa.B.iKeySlot l2)))), (Option.some (Go.Eng.HE.mk Bool.false (Go.Eng.HB.rows (Go.Sa.B.iKeySlot l3))))] => c_laws_eqKeySlotS_ww_0 N b2 b3 l2 l3 n (KL Go.Eng.Ex.ret [(Option.some (Go.Eng.AV.sc (Go.Eng.SV.bool Bool.false)))] [(Option.some (Go.Eng.HE.mk Bool.false (Go.Eng.HB.rows (Go.Sa.B.iKeySlot l2)))), (Option.some (Go.Eng.HE.mk Bool.false (Go.Eng.HB.rows (Go.Sa.B.iKeySlot l3))))]) (KL Go.Eng.Ex.normal [Option.none] [(Option.some (Go.Eng.HE.mk Bool.false (Go.Eng.HB.rows (Go.Sa.B.iKeySlot l2)))), (Option.some (Go.Eng.HE.mk Bool.false (Go.Eng.HB.rows (Go.Sa.B.iKeySlot l3))))])
  | _, _ => none
noncomputable def IT_laws_eqKeySlotS_ww_0 (N : Nat) : Its E := addIt 0 (i_laws_eqKeySlotS_ww_0 N) (noIt)
theorem IT_laws_eqKeySlotS_ww_0_ok (N : Nat) : ItOk (IT_laws_eqKeySlotS_ww_0 N) 2 27 sl_laws_eqKeySlotS_ww (lsB Go.Proofs.Try.f88 [0]) :=
  addItB_ok (inner := []) ok (O_laws_eqKeySlotS_ww_ok N) (jn_ok _ _ _) (noIt_ok) rfl (by kernel_rfl) rfl fun vs H KL r h => by
    unfold i_laws_eqKeySlotS_ww_0 at h
    split at h
    · exact ⟨_, (le_laws_eqKeySlotS_ww_0 N _ _ _ _ KL N _).trans h⟩
    · cases h
def g_laws_eqKeySlotS_ww (N : Nat) {R : Type} (b : Bool) (b1 : Bool) (l : List Go.Sa.KeySlot) (l1 : List Go.Sa.KeySlot) (k : Bool → Option R) : Option R :=
  (cond ((((List.length l) : Nat) : Int) != (((List.length l1) : Nat) : Int))
  (k Bool.false)
  (c_laws_eqKeySlotS_ww_0 N b b1 l l1 (0 : Int) (
    (k Bool.false)) (
    (k Bool.true))))
theorem e_laws_eqKeySlotS_ww (N : Nat) {R : Type} (b : Bool) (b1 : Bool) (l : List Go.Sa.KeySlot) (l1 : List Go.Sa.KeySlot) (K : AV → Hp E → Option R) :
    runFnI (E := E) (O_laws_eqKeySlotS_ww N) (IT_laws_eqKeySlotS_ww_0 N) sl_laws_eqKeySlotS_ww J_laws_eqKeySlotS_ww Go.Proofs.Try.f88 [(Go.Eng.AV.sc (Go.Eng.SV.slc 0 Option.none b)), (Go.Eng.AV.sc (Go.Eng.SV.slc 1 Option.none b1))] [(Option.some (Go.Eng.HE.mk Bool.false (Go.Eng.HB.rows (Go.Sa.B.iKeySlot l)))), (Option.some (Go.Eng.HE.mk Bool.false (Go.Eng.HB.rows (Go.Sa.B.iKeySlot l1))))] K =
      g_laws_eqKeySlotS_ww N b b1 l l1 (fun b5 => K (Go.Eng.AV.sc (Go.Eng.SV.bool b5)) [(Option.some (Go.Eng.HE.mk Bool.false (Go.Eng.HB.rows (Go.Sa.B.iKeySlot l)))), (Option.some (Go.Eng.HE.mk Bool.false (Go.Eng.HB.rows (Go.Sa.B.iKeySlot l1))))]) := by kernel_rfl
def o_laws_eqKeySlotS_ww (N : Nat) {R : Type} (args : List AV) (H : Hp E) (K : AV → Hp E → Option R) : Option R :=
  match args, H with
  | [(Go.Eng.AV.sc (Go.Eng.SV.slc 0 Option.none b)), (Go.Eng.AV.sc (Go.Eng.SV.slc 1 Option.none b1))], [(Option.some (Go.Eng.HE.mk Bool.false (Go.Eng.HB.rows (Go.Sa.B.iKeySlot l)))), (Option.some (Go.Eng.HE.mk Bool.false (Go.Eng.HB.rows (Go.Sa.B.iKeySlot l1))))] => g_laws_eqKeySlotS_ww N b b1 l l1 (fun b5 => K (Go.Eng.AV.sc (Go.Eng.SV.bool b5)) [(Option.some (Go.Eng.HE.mk Bool.false (Go.Eng.HB.rows (Go.Sa.B.iKeySlot l)))), (Option.some (Go.Eng.HE.mk Bool.false (Go.Eng.HB.rows (Go.Sa.B.iKeySlot l1))))])
  | _, _ => none
theorem o_laws_eqKeySlotS_ww_ok (N : Nat) : FnOk E 88 (o_laws_eqKeySlotS_ww N) := by
  intro R args H K r h
  unfold o_laws_eqKeySlotS_ww at h
  dsimp only at h
  split at h
  · exact fnB_ok (ids := [0]) (top := [0]) ok (O_laws_eqKeySlotS_ww_ok N) (jn_ok _ _ _) Go.Proofs.Try.func88 (by kernel_rfl) (IT := IT_laws_eqKeySlotS_ww_0 N) (sl := sl_laws_eqKeySlotS_ww) (J := J_laws_eqKeySlotS_ww) (K := K) (H := [(Option.some (Go.Eng.HE.mk Bool.false (Go.Eng.HB.rows (Go.Sa.B.iKeySlot _)))), (Option.some (Go.Eng.HE.mk Bool.false (Go.Eng.HB.rows (Go.Sa.B.iKeySlot _))))]) (IT_laws_eqKeySlotS_ww_0_ok N) (by kernel_rfl) rfl ((e_laws_eqKeySlotS_ww N _ _ _ _ K).trans h)
  · cases h
/-! ### loop.example/g00038/laws.eqVolume -/
abbrev sl_laws_eqVolume_ww : SlotT := []
abbrev J_laws_eqVolume_ww : JT := jn [] [] []
noncomputable def O_laws_eqVolume_ww (N : Nat) : Orc E := addFn 88 (o_laws_eqKeySlotS_ww N) (noFn)
theorem O_laws_eqVolume_ww_ok (N : Nat) : OrcOk (O_laws_eqVolume_ww N) := addFn_ok (o_laws_eqKeySlotS_ww_ok N) (noFn_ok)
def g_laws_eqVolume_ww (N : Nat) {R : Type} (b : Bool) (s : ByteArray) (b1 : Bool) (s1 : ByteArray) (l : List Go.Sa.KeySlot) (l1 : List Go.Sa.KeySlot) (k : Bool → Option R) : Option R :=
  (g_laws_eqKeySlotS_ww N b b1 l l1 fun b2 =>
  (cond (!b2)
  (k Bool.false)
  (cond (!(decide ((s = s1))))
    (k Bool.false)
    (k Bool.true))))
theorem e_laws_eqVolume_ww (N : Nat) {R : Type} (b : Bool) (s : ByteArray) (b1 : Bool) (s1 : ByteArray) (l : List Go.Sa.KeySlot) (l1 : List Go.Sa.KeySlot) (K : AV → Hp E → Option R) :
    runFnI (E := E) (O_laws_eqVolume_ww N) (noIt) sl_laws_eqVolume_ww J_laws_eqVolume_ww Go.Proofs.Try.f38 [(Go.Eng.AV.agg [(Go.Eng.SV.slc 0 Option.none b), (Go.Eng.SV.str s)]), (Go.Eng.AV.agg [(Go.Eng.SV.slc 1 Option.none b1), (Go.Eng.SV.str s1)])] [(Option.some (Go.Eng.HE.mk Bool.false (Go.Eng.HB.rows (Go.Sa.B.iKeySlot l)))), (Option.some (Go.Eng.HE.mk Bool.false (Go.Eng.HB.rows (Go.Sa.B.iKeySlot l1))))] K =
      g_laws_eqVolume_ww N b s b1 s1 l l1 (fun b3 => K (Go.Eng.AV.sc (Go.Eng.SV.bool b3)) [(Option.some (Go.Eng.HE.mk Bool.false (Go.Eng.HB.rows (Go.Sa.B.iKeySlot l)))), (Option.some (Go.Eng.HE.mk Bool.false (Go.Eng.HB.rows (Go.Sa.B.iKeySlot l1))))]) := by kernel_rfl
def o_laws_eqVolume_ww (N : Nat) {R : Type} (args : List AV) (H : Hp E) (K : AV → Hp E → Option R) : Option R :=
  match args, H with
  | [(Go.Eng.AV.agg [(Go.Eng.SV.slc 0 Option.none b), (Go.Eng.SV.str s)]), (Go.Eng.AV.agg [(Go.Eng.SV.slc 1 Option.none b1), (Go.Eng.SV.str s1)])], [(Option.some (Go.Eng.HE.mk Bool.false (Go.Eng.HB.rows (Go.Sa.B.iKeySlot l)))), (Option.some (Go.Eng.HE.mk Bool.false (Go.Eng.HB.rows (Go.Sa.B.iKeySlot l1))))] => g_laws_eqVolume_ww N b s b1 s1 l l1 (fun b3 => K (Go.Eng.AV.sc (Go.Eng.SV.bool b3)) [(Option.some (Go.Eng.HE.mk Bool.false (Go.Eng.HB.rows (Go.Sa.B.iKeySlot l)))), (Option.some (Go.Eng.HE.mk Bool.false (Go.Eng.HB.rows (Go.Sa.B.iKeySlot l1))))])
  | _, _ => none
theorem o_laws_eqVolume_ww_ok (N : Nat) : FnOk E 38 (o_laws_eqVolume_ww N) := by
  intro R args H K r h
  unfold o_laws_eqVolume_ww at h
  dsimp only at h
  split at h
  · exact fnB_ok (ids := []) (top := []) ok (O_laws_eqVolume_ww_ok N) (jn_ok _ _ _) Go.Proofs.Try.func38 (by kernel_rfl) (IT := noIt) (sl := sl_laws_eqVolume_ww) (J := J_laws_eqVolume_ww) (K := K) (H := [(Option.some (Go.Eng.HE.mk Bool.false (Go.Eng.HB.rows (Go.Sa.B.iKeySlot _)))), (Option.some (Go.Eng.HE.mk Bool.false (Go.Eng.HB.rows (Go.Sa.B.iKeySlot _))))]) (noIt_ok) (by kernel_rfl) rfl ((e_laws_eqVolume_ww N _ _ _ _ _ _ K).trans h)
  · cases h
/-! ### loop.example/g00038/laws.eqVolumeRes -/
abbrev sl_laws_eqVolumeRes_ww : SlotT := []
abbrev J_laws_eqVolumeRes_ww : JT := jn [] [] []
noncomputable def O_laws_eqVolumeRes_ww (N : Nat) : Orc E := addFn 38 (o_laws_eqVolume_ww N) (noFn)
theorem O_laws_eqVolumeRes_ww_ok (N : Nat) : OrcOk (O_laws_eqVolumeRes_ww N) := addFn_ok (o_laws_eqVolume_ww_ok N) (noFn_ok)
def g_laws_eqVolumeRes_ww (N : Nat) {R : Type} (n : Int) (b : Bool) (s : ByteArray) (n1 : Int) (b1 : Bool) (s1 : ByteArray) (l : List Go.Sa.KeySlot) (l1 : List Go.Sa.KeySlot) (k : Bool → Option R) : Option R :=
  (cond (n != n1)
  (k Bool.false)
  (g_laws_eqVolume_ww N b s b1 s1 l l1 fun b2 =>
    (cond (!b2)
    (k Bool.false)
    (k Bool.true))))
theorem e_laws_eqVolumeRes_ww (N : Nat) {R : Type} (n : Int) (b : Bool) (s : ByteArray) (n1 : Int) (b1 : Bool) (s1 : ByteArray) (l : List Go.Sa.KeySlot) (l1 : List Go.Sa.KeySlot) (K : AV → Hp E → Option R) :
    runFnI (E := E) (O_laws_eqVolumeRes_ww N) (noIt) sl_laws_eqVolumeRes_ww J_laws_eqVolumeRes_ww Go.Proofs.Try.f31 [(Go.Eng.AV.agg [(Go.Eng.SV.int Go.IntKind.i64 n), (Go.Eng.SV.slc 0 Option.none b), (Go.Eng.SV.str s)]), (Go.Eng.AV.agg [(Go.Eng.SV.int Go.IntKind.i64 n1), (Go.Eng.SV.slc 1 Option.none b1), (Go.Eng.SV.str s1)])] [(Option.some (Go.Eng.HE.mk Bool.false (Go.Eng.HB.rows (Go.Sa.B.iKeySlot l)))), (Option.some (Go.Eng.HE.mk Bool.false (Go.Eng.HB.rows (Go.Sa.B.iKeySlot l1))))] K =
      g_laws_eqVolumeRes_ww N n b s n1 b1 s1 l l1 (fun b3 => K (Go.Eng.AV.sc (Go.Eng.SV.bool b3)) [(Option.some (Go.Eng.HE.mk Bool.false (Go.Eng.HB.rows (Go.Sa.B.iKeySlot l)))), (Option.some (Go.Eng.HE.mk Bool.false (Go.Eng.HB.rows (Go.Sa.B.iKeySlot l1))))]) := by kernel_rfl
def o_laws_eqVolumeRes_ww (N : Nat) {R : Type} (args : List AV) (H : Hp E) (K : AV → Hp E → Option R) : Option R :=
  match args, H with
  | [(Go.Eng.AV.agg [(Go.Eng.SV.int Go.IntKind.i64 n), (Go.Eng.SV.slc 0 Option.none b), (Go.Eng.SV.str s)]), (Go.Eng.AV.agg [(Go.Eng.SV.int Go.IntKind.i64 n1), (Go.Eng.SV.slc 1 Option.none b1), (Go.Eng.SV.str s1)])], [(Option.some (Go.Eng.HE.mk Bool.false (Go.Eng.HB.rows (Go.Sa.B.iKeySlot l)))), (Option.some (Go.Eng.HE.mk Bool.false (Go.Eng.HB.rows (Go.Sa.B.iKeySlot l1))))] => g_laws_eqVolumeRes_ww N n b s n1 b1 s1 l l1 (fun b3 => K (Go.Eng.AV.sc (Go.Eng.SV.bool b3)) [(Option.some (Go.Eng.HE.mk Bool.false (Go.Eng.HB.rows (Go.Sa.B.iKeySlot l)))), (Option.some (Go.Eng.HE.mk Bool.false (Go.Eng.HB.rows (Go.Sa.B.iKeySlot l1))))])
  | _, _ => none
theorem o_laws_eqVolumeRes_ww_ok (N : Nat) : FnOk E 31 (o_laws_eqVolumeRes_ww N) := by
  intro R args H K r h
  unfold o_laws_eqVolumeRes_ww at h
  dsimp only at h
  split at h
  · exact fnB_ok (ids := []) (top := []) ok (O_laws_eqVolumeRes_ww_ok N) (jn_ok _ _ _) Go.Proofs.Try.func31 (by kernel_rfl) (IT := noIt) (sl := sl_laws_eqVolumeRes_ww) (J := J_laws_eqVolumeRes_ww) (K := K) (H := [(Option.some (Go.Eng.HE.mk Bool.false (Go.Eng.HB.rows (Go.Sa.B.iKeySlot _)))), (Option.some (Go.Eng.HE.mk Bool.false (Go.Eng.HB.rows (Go.Sa.B.iKeySlot _))))]) (noIt_ok) (by kernel_rfl) rfl ((e_laws_eqVolumeRes_ww N _ _ _ _ _ _ _ _ K).trans h)
  · cases h
/-! ### loop.example/g00038/laws.eqKeySlotS -/
abbrev sl_laws_eqKeySlotS_rr : SlotT := [(0, ([0, 1, 5], [4]))]
abbrev J_laws_eqKeySlotS_rr : JT := jn [] [] []
noncomputable def O_laws_eqKeySlotS_rr (N : Nat) : Orc E := addFn 119 (o_laws_eqKeySlot N) (noFn)
theorem O_laws_eqKeySlotS_rr_ok (N : Nat) : OrcOk (O_laws_eqKeySlotS_rr N) := addFn_ok (o_laws_eqKeySlot_ok N) (noFn_ok)
def s_laws_eqKeySlotS_rr_0 (N : Nat) {R : Type} (b2 : Bool) (b3 : Bool) (l2 : List Go.Sa.KeySlot) (l3 : List Go.Sa.KeySlot) (n : Int) (ag : Int → Option R)  (kR : Option R) (kN : Option R) : Option R :=
  (cond (decide ((n < (((List.length l2) : Nat) : Int))))
  (cond ((decide (((0 : Int) ≤ n))) && (decide ((n < (((List.length l2) : Nat) : Int)))))
    (elemK l2 (Int.toNat n) fun x =>
      (cond ((decide (((0 : Int) ≤ n))) && (decide ((n < (((List.length l3) : Nat) : Int)))))
      (elemK l3 (Int.toNat n) fun x1 =>
        (g_laws_eqKeySlot N (Go.Sa.KeySlot.fSalt x) (Go.Sa.KeySlot.fKey x) (Go.Sa.KeySlot.fTag x) (Go.Sa.KeySlot.fSalt x1) (Go.Sa.KeySlot.fKey x1) (Go.Sa.KeySlot.fTag x1) fun b4 =>
        (cond (!b4)
        kR
        (ag (Go.IntKind.wrap Go.IntKind.i64 (n + (1 : Int)))))))
      none))
    none)
  kN)
def l_laws_eqKeySlotS_rr_0 (N : Nat) {R : Type} (b2 : Bool) (b3 : Bool) (l2 : List Go.Sa.KeySlot) (l3 : List Go.Sa.KeySlot) (kR : Option R) (kN : Option R) : Nat → Int → Option R
  | 0, _ => none
  | f + 1, n => s_laws_eqKeySlotS_rr_0 N b2 b3 l2 l3 n (fun n => l_laws_eqKeySlotS_rr_0 N b2 b3 l2 l3 kR kN f n)  kR kN
def c_laws_eqKeySlotS_rr_0 (N : Nat) {R : Type} (b2 : Bool) (b3 : Bool) (l2 : List Go.Sa.KeySlot) (l3 : List Go.Sa.KeySlot) (n : Int) (kR : Option R) (kN : Option R) : Option R := l_laws_eqKeySlotS_rr_0 N b2 b3 l2 l3 kR kN N n
theorem se_laws_eqKeySlotS_rr_0 (N : Nat) {R : Type} (b2 : Bool) (b3 : Bool) (l2 : List Go.Sa.KeySlot) (l3 : List Go.Sa.KeySlot) (n : Int) (AG : List (Option AV) → Hp E → Option R) (KL : Ex → List (Option AV) → Hp E → Option R) :
    iterStep (E := E) (O_laws_eqKeySlotS_rr N) (fun {R} => LI (noIt) 2 27 sl_laws_eqKeySlotS_rr (R := R)) J_laws_eqKeySlotS_rr 2 27 0 [0, 1, 5] [4] (body Go.Proofs.Try.f88 0) AG KL [(Option.some (Go.Eng.AV.sc (Go.Eng.SV.slc 0 Option.none b2))), (Option.some (Go.Eng.AV.sc (Go.Eng.SV.slc 1 Option.none b3))), (Option.some (Go.Eng.AV.sc (Go.Eng.SV.int Go.IntKind.i64 n)))] [(Option.some (Go.Eng.HE.mk Bool.true (Go.Eng.HB.rows (Go.Sa.B.iKeySlot l2)))), (Option.some (Go.Eng.HE.mk Bool.true (Go.Eng.HB.rows (Go.Sa.B.iKeySlot l3))))] =
      s_laws_eqKeySlotS_rr_0 N b2 b3 l2 l3 n (fun n => AG [(Option.some (Go.Eng.AV.sc (Go.Eng.SV.slc 0 Option.none b2))), (Option.some (Go.Eng.AV.sc (Go.Eng.SV.slc 1 Option.none b3))), (Option.some (Go.Eng.AV.sc (Go.Eng.SV.int Go.IntKind.i64 n)))] [(Option.some (Go.Eng.HE.mk Bool.true (Go.Eng.HB.rows (Go.Sa.B.iKeySlot l2)))), (Option.some (Go.Eng.HE.mk Bool.true (Go.Eng.HB.rows (Go.Sa.B.iKeySlot l3))))])  (KL Go.Eng.Ex.ret [(Option.some (Go.Eng.AV.sc (Go.Eng.SV.bool Bool.false)))] [(Option.some (Go.Eng.HE.mk Bool.true (Go.Eng.HB.rows (Go.Sa.B.iKeySlot l2)))), (Option.some (Go.Eng.HE.mk Bool.true (Go.Eng.HB.rows (Go.Sa.B.iKeySlot l3))))]) (KL Go.Eng.Ex.normal [Option.none] [(Option.some (Go.Eng.HE.mk Bool.true (Go.Eng.HB.rows (Go.Sa.B.iKeySlot l2)))), (Option.some (Go.Eng.HE.mk Bool.true (Go.Eng.HB.rows (Go.Sa.B.iKeySlot l3))))]) := by kernel_rfl
theorem le_laws_eqKeySlotS_rr_0 (N : Nat) {R : Type} (b2 : Bool) (b3 : Bool) (l2 : List Go.Sa.KeySlot) (l3 : List Go.Sa.KeySlot) (KL : Ex → List (Option AV) → Hp E → Option R) : ∀ (f : Nat), ∀ (n : Int), iterK (E := E) (O_laws_eqKeySlotS_rr N) (fun {R} => LI (noIt) 2 27 sl_laws_eqKeySlotS_rr (R := R)) J_laws_eqKeySlotS_rr 2 27 0 [0, 1, 5] [4] (body Go.Proofs.Try.f88 0) f [(Option.some (Go.Eng.AV.sc (Go.Eng.SV.slc 0 Option.none b2))), (Option.some (Go.Eng.AV.sc (Go.Eng.SV.slc 1 Option.none b3))), (Option.some (Go.Eng.AV.sc (Go.Eng.SV.int Go.IntKind.i64 n)))] [(Option.some (Go.Eng.HE.mk Bool.true (Go.Eng.HB.rows (Go.Sa.B.iKeySlot l2)))), (Option.some (Go.Eng.HE.mk Bool.true (Go.Eng.HB.rows (Go.Sa.B.iKeySlot l3))))] KL = l_laws_eqKeySlotS_rr_0 N b2 b3 l2 l3 (KL Go.Eng.Ex.ret [(Option.some (Go.Eng.AV.sc (Go.Eng.SV.bool Bool.false)))] [(Option.some (Go.Eng.HE.mk Bool.true (Go.Eng.HB.rows (Go.Sa.B.iKeySlot l2)))), (Option.some (Go.Eng.HE.mk Bool.true (Go.Eng.HB.rows (Go.Sa.B.iKeySlot l3))))]) (KL Go.Eng.Ex.normal [Option.none] [(Option.some (Go.Eng.HE.mk Bool.true (Go.Eng.HB.rows (Go.Sa.B.iKeySlot l2)))), (Option.some (Go.Eng.HE.mk Bool.true (Go.Eng.HB.rows (Go.Sa.B.iKeySlot l3))))]) f n := by
  intro f
  induction f with
  | zero => intros; rfl
  | succ f ih =>
    intro n
    rw [iterK_succ, se_laws_eqKeySlotS_rr_0]
    exact (congrArg (fun z0 => s_laws_eqKeySlotS_rr_0 N b2 b3 l2 l3 n z0 (KL Go.Eng.Ex.ret [(Option.some (Go.Eng.AV.sc (Go.Eng.SV.bool Bool.false)))] [(Option.some (Go.Eng.HE.mk Bool.true (Go.Eng.HB.rows (Go.Sa.B.iKeySlot l2)))), (Option.some (Go.Eng.HE.mk Bool.true (Go.Eng.HB.rows (Go.Sa.B.iKeySlot l3))))]) (KL Go.Eng.Ex.normal [Option.none] [(Option.some (Go.Eng.HE.mk Bool.true (Go.Eng.HB.rows (Go.Sa.B.iKeySlot l2)))), (Option.some (Go.Eng.HE.mk Bool.true (Go.Eng.HB.rows (Go.Sa.B.iKeySlot l3))))])) (funext fun n => ih n))
def i_laws_eqKeySlotS_rr_0 (N : Nat) {R : Type} (vs : List (Option AV)) (H : Hp E) (KL : Ex → List (Option AV) → Hp E → Option R) : Option R :=
  match vs, H with
  | [(Option.some (Go.Eng.AV.sc (Go.Eng.SV.slc 0 Option.none b2))), (Option.some (Go.Eng.AV.sc (Go.Eng.SV.slc 1 Option.none b3))), (Option.some (Go.Eng.AV.sc (Go.Eng.SV.int Go.IntKind.i64 n)))], [(Option.some (Go.Eng.HE.mk Bool.true (Go.Eng.HB.rows (Go.Sa.B.iKeySlot l2)))), (Option.some (Go.Eng.HE.mk Bool.true (Go.Eng.HB.rows (Go.Sa.B.iKeySlot l3))))] => c_laws_eqKeySlotS_rr_0 N b2 b3 l2 l3 n (KL Go.Eng.Ex.ret [(Option.some (Go.Eng.AV.sc (Go.Eng.SV.bool Bool.false)))] [(Option.some (Go.Eng.HE.mk Bool.true (Go.Eng.HB.rows (Go.Sa.B.iKeySlot l2)))), (Option.some (Go.Eng.HE.mk Bool.true (Go.Eng.HB.rows (Go.Sa.B.iKeySlot l3))))]) (KL Go.Eng.Ex.normal [Option.none] [(Option.some (Go.Eng.HE.mk Bool.true (Go.Eng.HB.rows (Go.Sa.B.iKeySlot l2)))), (Option.some (Go.Eng.HE.mk Bool.true (Go.Eng.HB.rows (Go.Sa.B.iKeySlot l3))))])
  | _, _ => none
noncomputable def IT_laws_eqKeySlotS_rr_0 (N : Nat) : Its E := addIt 0 (i_laws_eqKeySlotS_rr_0 N) (noIt)
theorem IT_laws_eqKeySlotS_rr_0_ok (N : Nat) : ItOk (IT_laws_eqKeySlotS_rr_0 N) 2 27 sl_laws_eqKeySlotS_rr (lsB Go.Proofs.Try.f88 [0]) :=
  addItB_ok (inner := []) ok (O_laws_eqKeySlotS_rr_ok N) (jn_ok _ _ _) (noIt_ok) rfl (by kernel_rfl) rfl fun vs H KL r h => by
    unfold i_laws_eqKeySlotS_rr_0 at h
    split at h
    · exact ⟨_, (le_laws_eqKeySlotS_rr_0 N _ _ _ _ KL N _).trans h⟩
    · cases h
def g_laws_eqKeySlotS_rr (N : Nat) {R : Type} (b : Bool) (b1 : Bool) (l : List Go.Sa.KeySlot) (l1 : List Go.Sa.KeySlot) (k : Bool → Option R) : Option R :=
  (cond ((((List.length l) : Nat) : Int) != (((List.length l1) : Nat) : Int))
  (k Bool.false)
  (c_laws_eqKeySlotS_rr_0 N b b1 l l1 (0 : Int) (
    (k Bool.false)) (
    (k Bool.true))))
theorem e_laws_eqKeySlotS_rr (N : Nat) {R : Type} (b : Bool) (b1 : Bool) (l : List Go.Sa.KeySlot) (l1 : List Go.Sa.KeySlot) (K : AV → Hp E → Option R) :
    runFnI (E := E) (O_laws_eqKeySlotS_rr N) (IT_laws_eqKeySlotS_rr_0 N) sl_laws_eqKeySlotS_rr J_laws_eqKeySlotS_rr Go.Proofs.Try.f88 [(Go.Eng.AV.sc (Go.Eng.SV.slc 0 Option.none b)), (Go.Eng.AV.sc (Go.Eng.SV.slc 1 Option.none b1))] [(Option.some (Go.Eng.HE.mk Bool.true (Go.Eng.HB.rows (Go.Sa.B.iKeySlot l)))), (Option.some (Go.Eng.HE.mk Bool.true (Go.Eng.HB.rows (Go.Sa.B.iKeySlot l1))))] K =
      g_laws_eqKeySlotS_rr N b b1 l l1 (fun b5 => K (Go.Eng.AV.sc (Go.Eng.SV.bool b5)) [(Option.some (Go.Eng.HE.mk Bool.true (Go.Eng.HB.rows (Go.Sa.B.iKeySlot l)))), (Option.some (Go.Eng.HE.mk Bool.true (Go.Eng.HB.rows (Go.Sa.B.iKeySlot l1))))]) := by kernel_rfl
def o_laws_eqKeySlotS_rr (N : Nat) {R : Type} (args : List AV) (H : Hp E) (K : AV → Hp E → Option R) : Option R :=
  match args, H with
  | [(Go.Eng.AV.sc (Go.Eng.SV.slc 0 Option.none b)), (Go.Eng.AV.sc (Go.Eng.SV.slc 1 Option.none b1))], [(Option.some (Go.Eng.HE.mk Bool.true (Go.Eng.HB.rows (Go.Sa.B.iKeySlot l)))), (Option.some (Go.Eng.HE.mk Bool.true (Go.Eng.HB.rows (Go.Sa.B.iKeySlot l1))))] => g_laws_eqKeySlotS_rr N b b1 l l1 (fun b5 => K (Go.Eng.AV.sc (Go.Eng.SV.bool b5)) [(Option.some (Go.Eng.HE.mk Bool.true (Go.Eng.HB.rows (Go.Sa.B.iKeySlot l)))), (Option.some (Go.Eng.HE.mk Bool.true (Go.Eng.HB.rows (Go.Sa.B.iKeySlot l1))))])
  | _, _ => none
theorem o_laws_eqKeySlotS_rr_ok (N : Nat) : FnOk E 88 (o_laws_eqKeySlotS_rr N) := by
  intro R args H K r h
  unfold o_laws_eqKeySlotS_rr at h
  dsimp only at h
  split at h
  · exact fnB_ok (ids := [0]) (top := [0]) ok (O_laws_eqKeySlotS_rr_ok N) (jn_ok _ _ _) Go.Proofs.Try.func88 (by kernel_rfl) (IT := IT_laws_eqKeySlotS_rr_0 N) (sl := sl_laws_eqKeySlotS_rr) (J := J_laws_eqKeySlotS_rr) (K := K) (H := [(Option.some (Go.Eng.HE.mk Bool.true (Go.Eng.HB.rows (Go.Sa.B.iKeySlot _)))), (Option.some (Go.Eng.HE.mk Bool.true (Go.Eng.HB.rows (Go.Sa.B.iKeySlot _))))]) (IT_laws_eqKeySlotS_rr_0_ok N) (by kernel_rfl) rfl ((e_laws_eqKeySlotS_rr N _ _ _ _ K).trans h)
  · cases h
/-! ### loop.example/g00038/laws.eqVolume -/
abbrev sl_laws_eqVolume_rr : SlotT := []
abbrev J_laws_eqVolume_rr : JT := jn [] [] []
noncomputable def O_laws_eqVolume_rr (N : Nat) : Orc E := addFn 88 (o_laws_eqKeySlotS_rr N) (noFn)
theorem O_laws_eqVolume_rr_ok (N : Nat) : OrcOk (O_laws_eqVolume_rr N) := addFn_ok (o_laws_eqKeySlotS_rr_ok N) (noFn_ok)
def g_laws_eqVolume_rr (N : Nat) {R : Type} (b : Bool) (s : ByteArray) (b1 : Bool) (s1 : ByteArray) (l : List Go.Sa.KeySlot) (l1 : List Go.Sa.KeySlot) (k : Bool → Option R) : Option R :=
  (g_laws_eqKeySlotS_rr N b b1 l l1 fun b2 =>
  (cond (!b2)
  (k Bool.false)
  (cond (!(decide ((s = s1))))
    (k Bool.false)
    (k Bool.true))))
theorem e_laws_eqVolume_rr (N : Nat) {R : Type} (b : Bool) (s : ByteArray) (b1 : Bool) (s1 : ByteArray) (l : List Go.Sa.KeySlot) (l1 : List Go.Sa.KeySlot) (K : AV → Hp E → Option R) :
    runFnI (E := E) (O_laws_eqVolume_rr N) (noIt) sl_laws_eqVolume_rr J_laws_eqVolume_rr Go.Proofs.Try.f38 [(Go.Eng.AV.agg [(Go.Eng.SV.slc 0 Option.none b), (Go.Eng.SV.str s)]), (Go.Eng.AV.agg [(Go.Eng.SV.slc 1 Option.none b1), (Go.Eng.SV.str s1)])] [(Option.some (Go.Eng.HE.mk Bool.true (Go.Eng.HB.rows (Go.Sa.B.iKeySlot l)))), (Option.some (Go.Eng.HE.mk Bool.true (Go.Eng.HB.rows (Go.Sa.B.iKeySlot l1))))] K =
      g_laws_eqVolume_rr N b s b1 s1 l l1 (fun b3 => K (Go.Eng.AV.sc (Go.Eng.SV.bool b3)) [(Option.some (Go.Eng.HE.mk Bool.true (Go.Eng.HB.rows (Go.Sa.B.iKeySlot l)))), (Option.some (Go.Eng.HE.mk Bool.true (Go.Eng.HB.rows (Go.Sa.B.iKeySlot l1))))]) := by kernel_rfl
def o_laws_eqVolume_rr (N : Nat) {R : Type} (args : List AV) (H : Hp E) (K : AV → Hp E → Option R) : Option R :=
  match args, H with
  | [(Go.Eng.AV.agg [(Go.Eng.SV.slc 0 Option.none b), (Go.Eng.SV.str s)]), (Go.Eng.AV.agg [(Go.Eng.SV.slc 1 Option.none b1), (Go.Eng.SV.str s1)])], [(Option.some (Go.Eng.HE.mk Bool.true (Go.Eng.HB.rows (Go.Sa.B.iKeySlot l)))), (Option.some (Go.Eng.HE.mk Bool.true (Go.Eng.HB.rows (Go.Sa.B.iKeySlot l1))))] => g_laws_eqVolume_rr N b s b1 s1 l l1 (fun b3 => K (Go.Eng.AV.sc (Go.Eng.SV.bool b3)) [(Option.some (Go.Eng.HE.mk Bool.true (Go.Eng.HB.rows (Go.Sa.B.iKeySlot l)))), (Option.some (Go.Eng.HE.mk Bool.true (Go.Eng.HB.rows (Go.Sa.B.iKeySlot l1))))])
  | _, _ => none
theorem o_laws_eqVolume_rr_ok (N : Nat) : FnOk E 38 (o_laws_eqVolume_rr N) := by
  intro R args H K r h
  unfold o_laws_eqVolume_rr at h
  dsimp only at h
  split at h
  · exact fnB_ok (ids := []) (top := []) ok (O_laws_eqVolume_rr_ok N) (jn_ok _ _ _) Go.Proofs.Try.func38 (by kernel_rfl) (IT := noIt) (sl := sl_laws_eqVolume_rr) (J := J_laws_eqVolume_rr) (K := K) (H := [(Option.some (Go.Eng.HE.mk Bool.true (Go.Eng.HB.rows (Go.Sa.B.iKeySlot _)))), (Option.some (Go.Eng.HE.mk Bool.true (Go.Eng.HB.rows (Go.Sa.B.iKeySlot _))))]) (noIt_ok) (by kernel_rfl) rfl ((e_laws_eqVolume_rr N _ _ _ _ _ _ K).trans h)
  · cases h
/-! ### loop.example/g00038/laws.markText -/
abbrev sl_laws_markText : SlotT := [(0, ([0, 3], [3]))]
abbrev J_laws_markText : JT := jn [] [] []
noncomputable def O_laws_markText (N : Nat) : Orc E := noFn
theorem O_laws_markText_ok (N : Nat) : OrcOk (O_laws_markText N) := noFn_ok
def s_laws_markText_0 (N : Nat) {R : Type}  (n1 : Int) (s : ByteArray) (ag : Int → ByteArray → Option R)  (kN : ByteArray → Option R) : Option R :=
  (cond (decide ((n1 > (0 : Int))))
  (cond (Nat.ble ((ByteArray.size (Go.Eng.toBytes (Go.Eng.seg [(Go.IntKind.wrap Go.IntKind.u8 (Go.IntKind.wrap Go.IntKind.i64 ((48 : Int) + (Int.tmod n1 (10 : Int)))))] 0 (List.length [(Go.IntKind.wrap Go.IntKind.u8 (Go.IntKind.wrap Go.IntKind.i64 ((48 : Int) + (Int.tmod n1 (10 : Int)))))])))) + (ByteArray.size s)) 9223372036854775807)
    (ag (Go.IntKind.wrap Go.IntKind.i64 (Int.tdiv n1 (10 : Int))) ((Go.Eng.toBytes (Go.Eng.seg [(Go.IntKind.wrap Go.IntKind.u8 (Go.IntKind.wrap Go.IntKind.i64 ((48 : Int) + (Int.tmod n1 (10 : Int)))))] 0 (List.length [(Go.IntKind.wrap Go.IntKind.u8 (Go.IntKind.wrap Go.IntKind.i64 ((48 : Int) + (Int.tmod n1 (10 : Int)))))]))) ++ s))
    none)
  (kN s))
def l_laws_markText_0 (N : Nat) {R : Type}  (kN : ByteArray → Option R) : Nat → Int → ByteArray → Option R
  | 0, _, _ => none
  | f + 1, n1, s => s_laws_markText_0 N  n1 s (fun n1 s => l_laws_markText_0 N  kN f n1 s)  kN
def c_laws_markText_0 (N : Nat) {R : Type}  (n1 : Int) (s : ByteArray) (kN : ByteArray → Option R) : Option R := l_laws_markText_0 N  kN N n1 s
theorem se_laws_markText_0 (N : Nat) {R : Type}  (n1 : Int) (s : ByteArray) (AG : List (Option AV) → Hp E → Option R) (KL : Ex → List (Option AV) → Hp E → Option R) :
    iterStep (E := E) (O_laws_markText N) (fun {R} => LI (noIt) 0 20 sl_laws_markText (R := R)) J_laws_markText 0 20 0 [0, 3] [3] (body Go.Proofs.Try.f122 0) AG KL [(Option.some (Go.Eng.AV.sc (Go.Eng.SV.int Go.IntKind.i64 n1))), (Option.some (Go.Eng.AV.sc (Go.Eng.SV.str s)))] [] =
      s_laws_markText_0 N  n1 s (fun n1 s => AG [(Option.some (Go.Eng.AV.sc (Go.Eng.SV.int Go.IntKind.i64 n1))), (Option.some (Go.Eng.AV.sc (Go.Eng.SV.str s)))] [])  (fun s3 => KL Go.Eng.Ex.normal [(Option.some (Go.Eng.AV.sc (Go.Eng.SV.str s3)))] []) := by kernel_rfl
theorem le_laws_markText_0 (N : Nat) {R : Type}  (KL : Ex → List (Option AV) → Hp E → Option R) : ∀ (f : Nat), ∀ (n1 : Int) (s : ByteArray), iterK (E := E) (O_laws_markText N) (fun {R} => LI (noIt) 0 20 sl_laws_markText (R := R)) J_laws_markText 0 20 0 [0, 3] [3] (body Go.Proofs.Try.f122 0) f [(Option.some (Go.Eng.AV.sc (Go.Eng.SV.int Go.IntKind.i64 n1))), (Option.some (Go.Eng.AV.sc (Go.Eng.SV.str s)))] [] KL = l_laws_markText_0 N  (fun s3 => KL Go.Eng.Ex.normal [(Option.some (Go.Eng.AV.sc (Go.Eng.SV.str s3)))] []) f n1 s := by
  intro f
  induction f with
  | zero => intros; rfl
  | succ f ih =>
    intro n1 s
    rw [iterK_succ, se_laws_markText_0]
    exact (congrArg (fun z0 => s_laws_markText_0 N  n1 s z0 (fun s3 => KL Go.Eng.Ex.normal [(Option.some (Go.Eng.AV.sc (Go.Eng.SV.str s3)))] [])) (funext fun n1 => funext fun s => ih n1 s))
def i_laws_markText_0 (N : Nat) {R : Type} (vs : List (Option AV)) (H : Hp E) (KL : Ex → List (Option AV) → Hp E → Option R) : Option R :=
  match vs, H with
  | [(Option.some (Go.Eng.AV.sc (Go.Eng.SV.int Go.IntKind.i64 n1))), (Option.some (Go.Eng.AV.sc (Go.Eng.SV.str s)))], [] => c_laws_markText_0 N  n1 s (fun s4 => KL Go.Eng.Ex.normal [(Option.some (Go.Eng.AV.sc (Go.Eng.SV.str s4)))] [])
  | _, _ => none
noncomputable def IT_laws_markText_0 (N : Nat) : Its E := addIt 0 (i_laws_markText_0 N) (noIt)
theorem IT_laws_markText_0_ok (N : Nat) : ItOk (IT_laws_markText_0 N) 0 20 sl_laws_markText (lsB Go.Proofs.Try.f122 [0]) :=
  addItB_ok (inner := []) ok (O_laws_markText_ok N) (jn_ok _ _ _) (noIt_ok) rfl (by kernel_rfl) rfl fun vs H KL r h => by
    unfold i_laws_markText_0 at h
    split at h
    · exact ⟨_, (le_laws_markText_0 N KL N _ _).trans h⟩
    · cases h
def g_laws_markText (N : Nat) {R : Type} (n : Int) (k : ByteArray → Option R) : Option R :=
  (cond (decide ((n ≤ (0 : Int))))
  (k (ByteArray.mk (List.toArray [(109 : UInt8), (48 : UInt8)])))
  (c_laws_markText_0 N n (ByteArray.mk (List.toArray [])) fun s1 =>
    (cond (Nat.ble (1 + (ByteArray.size s1)) 9223372036854775807)
    (k ((ByteArray.mk (List.toArray [(109 : UInt8)])) ++ s1))
    none)))
theorem e_laws_markText (N : Nat) {R : Type} (n : Int) (K : AV → Hp E → Option R) :
    runFnI (E := E) (O_laws_markText N) (IT_laws_markText_0 N) sl_laws_markText J_laws_markText Go.Proofs.Try.f122 [(Go.Eng.AV.sc (Go.Eng.SV.int Go.IntKind.i64 n))] [] K =
      g_laws_markText N n (fun s2 => K (Go.Eng.AV.sc (Go.Eng.SV.str s2)) []) := by kernel_rfl
def o_laws_markText (N : Nat) {R : Type} (args : List AV) (H : Hp E) (K : AV → Hp E → Option R) : Option R :=
  match args, H with
  | [(Go.Eng.AV.sc (Go.Eng.SV.int Go.IntKind.i64 n))], [] => g_laws_markText N n (fun s2 => K (Go.Eng.AV.sc (Go.Eng.SV.str s2)) [])
  | _, _ => none
theorem o_laws_markText_ok (N : Nat) : FnOk E 122 (o_laws_markText N) := by
  intro R args H K r h
  unfold o_laws_markText at h
  dsimp only at h
  split at h
  · exact fnB_ok (ids := [0]) (top := [0]) ok (O_laws_markText_ok N) (jn_ok _ _ _) Go.Proofs.Try.func122 (by kernel_rfl) (IT := IT_laws_markText_0 N) (sl := sl_laws_markText) (J := J_laws_markText) (K := K) (H := []) (IT_laws_markText_0_ok N) (by kernel_rfl) rfl ((e_laws_markText N _ K).trans h)
  · cases h
/-! ### loop.example/g00038/laws.markKeySlotS -/
abbrev sl_laws_markKeySlotS_w : SlotT := [(0, ([0, 1, 5], [1]))]
abbrev J_laws_markKeySlotS_w : JT := jn [] [] []
noncomputable def O_laws_markKeySlotS_w (N : Nat) : Orc E := addFn 122 (o_laws_markText N) (noFn)
theorem O_laws_markKeySlotS_w_ok (N : Nat) : OrcOk (O_laws_markKeySlotS_w N) := addFn_ok (o_laws_markText_ok N) (noFn_ok)
def s_laws_markKeySlotS_w_0 (N : Nat) {R : Type} (b1 : Bool) (n1 : Int) (n2 : Int) (l1 : List Go.Sa.KeySlot) (ag : Int → Int → (List Go.Sa.KeySlot) → Option R)  (kN : Int → (List Go.Sa.KeySlot) → Option R) : Option R :=
  (cond (decide ((n2 < (((List.length l1) : Nat) : Int))))
  (cond ((decide (((0 : Int) ≤ n2))) && (decide ((n2 < (((List.length l1) : Nat) : Int)))))
    (elemK l1 (Int.toNat n2) fun x =>
      (cond (Nat.blt (Int.toNat n2) (List.length l1))
      (g_laws_markText N (Go.IntKind.wrap Go.IntKind.i64 (n1 + (1 : Int))) fun s =>
        (cond ((decide (((0 : Int) ≤ n2))) && (decide ((n2 < (((List.length (Go.Eng.nset l1 (Int.toNat n2) (Go.Sa.KeySlot.mk n1 (Go.Sa.KeySlot.fKey x) (Go.Sa.KeySlot.fTag x)))) : Nat) : Int)))))
        (elemK (Go.Eng.nset l1 (Int.toNat n2) (Go.Sa.KeySlot.mk n1 (Go.Sa.KeySlot.fKey x) (Go.Sa.KeySlot.fTag x))) (Int.toNat n2) fun x1 =>
          (cond (Nat.blt (Int.toNat n2) (List.length (Go.Eng.nset l1 (Int.toNat n2) (Go.Sa.KeySlot.mk n1 (Go.Sa.KeySlot.fKey x) (Go.Sa.KeySlot.fTag x)))))
          (g_laws_markText N (Go.IntKind.wrap Go.IntKind.i64 ((Go.IntKind.wrap Go.IntKind.i64 (n1 + (1 : Int))) + (1 : Int))) fun s1 =>
            (cond ((decide (((0 : Int) ≤ n2))) && (decide ((n2 < (((List.length (Go.Eng.nset (Go.Eng.nset l1 (Int.toNat n2) (Go.Sa.KeySlot.mk n1 (Go.Sa.KeySlot.fKey x) (Go.Sa.KeySlot.fTag x))) (Int.toNat n2) (Go.Sa.KeySlot.mk (Go.Sa.KeySlot.fSalt x1) s (Go.Sa.KeySlot.fTag x1)))) : Nat) : Int)))))
            (elemK (Go.Eng.nset (Go.Eng.nset l1 (Int.toNat n2) (Go.Sa.KeySlot.mk n1 (Go.Sa.KeySlot.fKey x) (Go.Sa.KeySlot.fTag x))) (Int.toNat n2) (Go.Sa.KeySlot.mk (Go.Sa.KeySlot.fSalt x1) s (Go.Sa.KeySlot.fTag x1))) (Int.toNat n2) fun x2 =>
              (cond (Nat.blt (Int.toNat n2) (List.length (Go.Eng.nset (Go.Eng.nset l1 (Int.toNat n2) (Go.Sa.KeySlot.mk n1 (Go.Sa.KeySlot.fKey x) (Go.Sa.KeySlot.fTag x))) (Int.toNat n2) (Go.Sa.KeySlot.mk (Go.Sa.KeySlot.fSalt x1) s (Go.Sa.KeySlot.fTag x1)))))
              (ag (Go.IntKind.wrap Go.IntKind.i64 ((Go.IntKind.wrap Go.IntKind.i64 ((Go.IntKind.wrap Go.IntKind.i64 (n1 + (1 : Int))) + (1 : Int))) + (1 : Int))) (Go.IntKind.wrap Go.IntKind.i64 (n2 + (1 : Int))) (Go.Eng.nset (Go.Eng.nset (Go.Eng.nset l1 (Int.toNat n2) (Go.Sa.KeySlot.mk n1 (Go.Sa.KeySlot.fKey x) (Go.Sa.KeySlot.fTag x))) (Int.toNat n2) (Go.Sa.KeySlot.mk (Go.Sa.KeySlot.fSalt x1) s (Go.Sa.KeySlot.fTag x1))) (Int.toNat n2) (Go.Sa.KeySlot.mk (Go.Sa.KeySlot.fSalt x2) (Go.Sa.KeySlot.fKey x2) s1)))
              none))
            none))
          none))
        none))
      none))
    none)
  (kN n1 l1))
def l_laws_markKeySlotS_w_0 (N : Nat) {R : Type} (b1 : Bool) (kN : Int → (List Go.Sa.KeySlot) → Option R) : Nat → Int → Int → (List Go.Sa.KeySlot) → Option R
  | 0, _, _, _ => none
  | f + 1, n1, n2, l1 => s_laws_markKeySlotS_w_0 N b1 n1 n2 l1 (fun n1 n2 l1 => l_laws_markKeySlotS_w_0 N b1 kN f n1 n2 l1)  kN
def c_laws_markKeySlotS_w_0 (N : Nat) {R : Type} (b1 : Bool) (n1 : Int) (n2 : Int) (l1 : List Go.Sa.KeySlot) (kN : Int → (List Go.Sa.KeySlot) → Option R) : Option R := l_laws_markKeySlotS_w_0 N b1 kN N n1 n2 l1
theorem se_laws_markKeySlotS_w_0 (N : Nat) {R : Type} (b1 : Bool) (n1 : Int) (n2 : Int) (l1 : List Go.Sa.KeySlot) (AG : List (Option AV) → Hp E → Option R) (KL : Ex → List (Option AV) → Hp E → Option R) :
    iterStep (E := E) (O_laws_markKeySlotS_w N) (fun {R} => LI (noIt) 1 36 sl_laws_markKeySlotS_w (R := R)) J_laws_markKeySlotS_w 1 36 0 [0, 1, 5] [1] (body Go.Proofs.Try.f103 0) AG KL [(Option.some (Go.Eng.AV.sc (Go.Eng.SV.slc 0 Option.none b1))), (Option.some (Go.Eng.AV.sc (Go.Eng.SV.int Go.IntKind.i64 n1))), (Option.some (Go.Eng.AV.sc (Go.Eng.SV.int Go.IntKind.i64 n2)))] [(Option.some (Go.Eng.HE.mk Bool.false (Go.Eng.HB.rows (Go.Sa.B.iKeySlot l1))))] =
      s_laws_markKeySlotS_w_0 N b1 n1 n2 l1 (fun n1 n2 l1 => AG [(Option.some (Go.Eng.AV.sc (Go.Eng.SV.slc 0 Option.none b1))), (Option.some (Go.Eng.AV.sc (Go.Eng.SV.int Go.IntKind.i64 n1))), (Option.some (Go.Eng.AV.sc (Go.Eng.SV.int Go.IntKind.i64 n2)))] [(Option.some (Go.Eng.HE.mk Bool.false (Go.Eng.HB.rows (Go.Sa.B.iKeySlot l1))))])  (fun n5 l4 => KL Go.Eng.Ex.normal [(Option.some (Go.Eng.AV.sc (Go.Eng.SV.int Go.IntKind.i64 n5)))] [(Option.some (Go.Eng.HE.mk Bool.false (Go.Eng.HB.rows (Go.Sa.B.iKeySlot l4))))]) := by kernel_rfl
theorem le_laws_markKeySlotS_w_0 (N : Nat) {R : Type} (b1 : Bool) (KL : Ex → List (Option AV) → Hp E → Option R) : ∀ (f : Nat), ∀ (n1 : Int) (n2 : Int) (l1 : List Go.Sa.KeySlot), iterK (E := E) (O_laws_markKeySlotS_w N) (fun {R} => LI (noIt) 1 36 sl_laws_markKeySlotS_w (R := R)) J_laws_markKeySlotS_w 1 36 0 [0, 1, 5] [1] (body Go.Proofs.Try.f103 0) f [(Option.some (Go.Eng.AV.sc (Go.Eng.SV.slc 0 Option.none b1))), (Option.some (Go.Eng.AV.sc (Go.Eng.SV.int Go.IntKind.i64 n1))), (Option.some (Go.Eng.AV.sc (Go.Eng.SV.int Go.IntKind.i64 n2)))] [(Option.some (Go.Eng.HE.mk Bool.false (Go.Eng.HB.rows (Go.Sa.B.iKeySlot l1))))] KL = l_laws_markKeySlotS_w_0 N b1 (fun n5 l4 => KL Go.Eng.Ex.normal [(Option.some (Go.Eng.AV.sc (Go.Eng.SV.int Go.IntKind.i64 n5)))] [(Option.some (Go.Eng.HE.mk Bool.false (Go.Eng.HB.rows (Go.Sa.B.iKeySlot l4))))]) f n1 n2 l1 := by
  intro f
  induction f with
  | zero => intros; rfl
  | succ f ih =>
    intro n1 n2 l1
    rw [iterK_succ, se_laws_markKeySlotS_w_0]
    exact (congrArg (fun z0 => s_laws_markKeySlotS_w_0 N b1 n1 n2 l1 z0 (fun n5 l4 => KL Go.Eng.Ex.normal [(Option.some (Go.Eng.AV.sc (Go.Eng.SV.int Go.IntKind.i64 n5)))] [(Option.some (Go.Eng.HE.mk Bool.false (Go.Eng.HB.rows (Go.Sa.B.iKeySlot l4))))])) (funext fun n1 => funext fun n2 => funext fun l1 => ih n1 n2 l1))
def i_laws_markKeySlotS_w_0 (N : Nat) {R : Type} (vs : List (Option AV)) (H : Hp E) (KL : Ex → List (Option AV) → Hp E → Option R) : Option R :=
  match vs, H with
  | [(Option.some (Go.Eng.AV.sc (Go.Eng.SV.slc 0 Option.none b1))), (Option.some (Go.Eng.AV.sc (Go.Eng.SV.int Go.IntKind.i64 n1))), (Option.some (Go.Eng.AV.sc (Go.Eng.SV.int Go.IntKind.i64 n2)))], [(Option.some (Go.Eng.HE.mk Bool.false (Go.Eng.HB.rows (Go.Sa.B.iKeySlot l1))))] => c_laws_markKeySlotS_w_0 N b1 n1 n2 l1 (fun n6 l5 => KL Go.Eng.Ex.normal [(Option.some (Go.Eng.AV.sc (Go.Eng.SV.int Go.IntKind.i64 n6)))] [(Option.some (Go.Eng.HE.mk Bool.false (Go.Eng.HB.rows (Go.Sa.B.iKeySlot l5))))])
  | _, _ => none
noncomputable def IT_laws_markKeySlotS_w_0 (N : Nat) : Its E := addIt 0 (i_laws_markKeySlotS_w_0 N) (noIt)
theorem IT_laws_markKeySlotS_w_0_ok (N : Nat) : ItOk (IT_laws_markKeySlotS_w_0 N) 1 36 sl_laws_markKeySlotS_w (lsB Go.Proofs.Try.f103 [0]) :=
  addItB_ok (inner := []) ok (O_laws_markKeySlotS_w_ok N) (jn_ok _ _ _) (noIt_ok) rfl (by kernel_rfl) rfl fun vs H KL r h => by
    unfold i_laws_markKeySlotS_w_0 at h
    split at h
    · exact ⟨_, (le_laws_markKeySlotS_w_0 N _ KL N _ _ _).trans h⟩
    · cases h
def g_laws_markKeySlotS_w (N : Nat) {R : Type} (b : Bool) (n : Int) (l : List Go.Sa.KeySlot) (k : Int → (List Go.Sa.KeySlot) → Option R) : Option R :=
  (c_laws_markKeySlotS_w_0 N b n (0 : Int) l fun n3 l2 =>
  (k n3 l2))
theorem e_laws_markKeySlotS_w (N : Nat) {R : Type} (b : Bool) (n : Int) (l : List Go.Sa.KeySlot) (K : AV → Hp E → Option R) :
    runFnI (E := E) (O_laws_markKeySlotS_w N) (IT_laws_markKeySlotS_w_0 N) sl_laws_markKeySlotS_w J_laws_markKeySlotS_w Go.Proofs.Try.f103 [(Go.Eng.AV.sc (Go.Eng.SV.slc 0 Option.none b)), (Go.Eng.AV.sc (Go.Eng.SV.int Go.IntKind.i64 n))] [(Option.some (Go.Eng.HE.mk Bool.false (Go.Eng.HB.rows (Go.Sa.B.iKeySlot l))))] K =
      g_laws_markKeySlotS_w N b n l (fun n4 l3 => K (Go.Eng.AV.sc (Go.Eng.SV.int Go.IntKind.i64 n4)) [(Option.some (Go.Eng.HE.mk Bool.false (Go.Eng.HB.rows (Go.Sa.B.iKeySlot l3))))]) := by kernel_rfl
def o_laws_markKeySlotS_w (N : Nat) {R : Type} (args : List AV) (H : Hp E) (K : AV → Hp E → Option R) : Option R :=
  match args, H with
  | [(Go.Eng.AV.sc (Go.Eng.SV.slc 0 Option.none b)), (Go.Eng.AV.sc (Go.Eng.SV.int Go.IntKind.i64 n))], [(Option.some (Go.Eng.HE.mk Bool.false (Go.Eng.HB.rows (Go.Sa.B.iKeySlot l))))] => g_laws_markKeySlotS_w N b n l (fun n4 l3 => K (Go.Eng.AV.sc (Go.Eng.SV.int Go.IntKind.i64 n4)) [(Option.some (Go.Eng.HE.mk Bool.false (Go.Eng.HB.rows (Go.Sa.B.iKeySlot l3))))])
  | _, _ => none
theorem o_laws_markKeySlotS_w_ok (N : Nat) : FnOk E 103 (o_laws_markKeySlotS_w N) := by
  intro R args H K r h
  unfold o_laws_markKeySlotS_w at h
  dsimp only at h
  split at h
  · exact fnB_ok (ids := [0]) (top := [0]) ok (O_laws_markKeySlotS_w_ok N) (jn_ok _ _ _) Go.Proofs.Try.func103 (by kernel_rfl) (IT := IT_laws_markKeySlotS_w_0 N) (sl := sl_laws_markKeySlotS_w) (J := J_laws_markKeySlotS_w) (K := K) (H := [(Option.some (Go.Eng.HE.mk Bool.false (Go.Eng.HB.rows (Go.Sa.B.iKeySlot _))))]) (IT_laws_markKeySlotS_w_0_ok N) (by kernel_rfl) rfl ((e_laws_markKeySlotS_w N _ _ _ K).trans h)
  · cases h
/-! ### loop.example/g00038/laws.markVolume -/
abbrev sl_laws_markVolume_w : SlotT := []
abbrev J_laws_markVolume_w : JT := jn [] [] []
noncomputable def O_laws_markVolume_w (N : Nat) : Orc E := addFn 103 (o_laws_markKeySlotS_w N) (noFn)
theorem O_laws_markVolume_w_ok (N : Nat) : OrcOk (O_laws_markVolume_w N) := addFn_ok (o_laws_markKeySlotS_w_ok N) (noFn_ok)
def g_laws_markVolume_w (N : Nat) {R : Type} (b : Bool) (s : ByteArray) (n : Int) (l : List Go.Sa.KeySlot) (k : Int → (List Go.Sa.KeySlot) → Option R) : Option R :=
  (g_laws_markKeySlotS_w N b n l fun n1 l1 =>
  (k n1 l1))
theorem e_laws_markVolume_w (N : Nat) {R : Type} (b : Bool) (s : ByteArray) (n : Int) (l : List Go.Sa.KeySlot) (K : AV → Hp E → Option R) :
    runFnI (E := E) (O_laws_markVolume_w N) (noIt) sl_laws_markVolume_w J_laws_markVolume_w Go.Proofs.Try.f53 [(Go.Eng.AV.agg [(Go.Eng.SV.slc 0 Option.none b), (Go.Eng.SV.str s)]), (Go.Eng.AV.sc (Go.Eng.SV.int Go.IntKind.i64 n))] [(Option.some (Go.Eng.HE.mk Bool.false (Go.Eng.HB.rows (Go.Sa.B.iKeySlot l))))] K =
      g_laws_markVolume_w N b s n l (fun n2 l2 => K (Go.Eng.AV.sc (Go.Eng.SV.int Go.IntKind.i64 n2)) [(Option.some (Go.Eng.HE.mk Bool.false (Go.Eng.HB.rows (Go.Sa.B.iKeySlot l2))))]) := by kernel_rfl
def o_laws_markVolume_w (N : Nat) {R : Type} (args : List AV) (H : Hp E) (K : AV → Hp E → Option R) : Option R :=
  match args, H with
  | [(Go.Eng.AV.agg [(Go.Eng.SV.slc 0 Option.none b), (Go.Eng.SV.str s)]), (Go.Eng.AV.sc (Go.Eng.SV.int Go.IntKind.i64 n))], [(Option.some (Go.Eng.HE.mk Bool.false (Go.Eng.HB.rows (Go.Sa.B.iKeySlot l))))] => g_laws_markVolume_w N b s n l (fun n2 l2 => K (Go.Eng.AV.sc (Go.Eng.SV.int Go.IntKind.i64 n2)) [(Option.some (Go.Eng.HE.mk Bool.false (Go.Eng.HB.rows (Go.Sa.B.iKeySlot l2))))])
  | _, _ => none
theorem o_laws_markVolume_w_ok (N : Nat) : FnOk E 53 (o_laws_markVolume_w N) := by
  intro R args H K r h
  unfold o_laws_markVolume_w at h
  dsimp only at h
  split at h
  · exact fnB_ok (ids := []) (top := []) ok (O_laws_markVolume_w_ok N) (jn_ok _ _ _) Go.Proofs.Try.func53 (by kernel_rfl) (IT := noIt) (sl := sl_laws_markVolume_w) (J := J_laws_markVolume_w) (K := K) (H := [(Option.some (Go.Eng.HE.mk Bool.false (Go.Eng.HB.rows (Go.Sa.B.iKeySlot _))))]) (noIt_ok) (by kernel_rfl) rfl ((e_laws_markVolume_w N _ _ _ _ K).trans h)
  · cases h
/-! ### loop.example/g00038/laws.eqVolumeRes -/
abbrev sl_laws_eqVolumeRes_rr : SlotT := []
abbrev J_laws_eqVolumeRes_rr : JT := jn [] [] []
noncomputable def O_laws_eqVolumeRes_rr (N : Nat) : Orc E := addFn 38 (o_laws_eqVolume_rr N) (noFn)
theorem O_laws_eqVolumeRes_rr_ok (N : Nat) : OrcOk (O_laws_eqVolumeRes_rr N) := addFn_ok (o_laws_eqVolume_rr_ok N) (noFn_ok)
def g_laws_eqVolumeRes_rr (N : Nat) {R : Type} (n : Int) (b : Bool) (s : ByteArray) (n1 : Int) (b1 : Bool) (s1 : ByteArray) (l : List Go.Sa.KeySlot) (l1 : List Go.Sa.KeySlot) (k : Bool → Option R) : Option R :=
  (cond (n != n1)
  (k Bool.false)
  (g_laws_eqVolume_rr N b s b1 s1 l l1 fun b2 =>
    (cond (!b2)
    (k Bool.false)
    (k Bool.true))))
theorem e_laws_eqVolumeRes_rr (N : Nat) {R : Type} (n : Int) (b : Bool) (s : ByteArray) (n1 : Int) (b1 : Bool) (s1 : ByteArray) (l : List Go.Sa.KeySlot) (l1 : List Go.Sa.KeySlot) (K : AV → Hp E → Option R) :
    runFnI (E := E) (O_laws_eqVolumeRes_rr N) (noIt) sl_laws_eqVolumeRes_rr J_laws_eqVolumeRes_rr Go.Proofs.Try.f31 [(Go.Eng.AV.agg [(Go.Eng.SV.int Go.IntKind.i64 n), (Go.Eng.SV.slc 0 Option.none b), (Go.Eng.SV.str s)]), (Go.Eng.AV.agg [(Go.Eng.SV.int Go.IntKind.i64 n1), (Go.Eng.SV.slc 1 Option.none b1), (Go.Eng.SV.str s1)])] [(Option.some (Go.Eng.HE.mk Bool.true (Go.Eng.HB.rows (Go.Sa.B.iKeySlot l)))), (Option.some (Go.Eng.HE.mk Bool.true (Go.Eng.HB.rows (Go.Sa.B.iKeySlot l1))))] K =
      g_laws_eqVolumeRes_rr N n b s n1 b1 s1 l l1 (fun b3 => K (Go.Eng.AV.sc (Go.Eng.SV.bool b3)) [(Option.some (Go.Eng.HE.mk Bool.true (Go.Eng.HB.rows (Go.Sa.B.iKeySlot l)))), (Option.some (Go.Eng.HE.mk Bool.true (Go.Eng.HB.rows (Go.Sa.B.iKeySlot l1))))]) := by kernel_rfl
def o_laws_eqVolumeRes_rr (N : Nat) {R : Type} (args : List AV) (H : Hp E) (K : AV → Hp E → Option R) : Option R :=
  match args, H with
  | [(Go.Eng.AV.agg [(Go.Eng.SV.int Go.IntKind.i64 n), (Go.Eng.SV.slc 0 Option.none b), (Go.Eng.SV.str s)]), (Go.Eng.AV.agg [(Go.Eng.SV.int Go.IntKind.i64 n1), (Go.Eng.SV.slc 1 Option.none b1), (Go.Eng.SV.str s1)])], [(Option.some (Go.Eng.HE.mk Bool.true (Go.Eng.HB.rows (Go.Sa.B.iKeySlot l)))), (Option.some (Go.Eng.HE.mk Bool.true (Go.Eng.HB.rows (Go.Sa.B.iKeySlot l1))))] => g_laws_eqVolumeRes_rr N n b s n1 b1 s1 l l1 (fun b3 => K (Go.Eng.AV.sc (Go.Eng.SV.bool b3)) [(Option.some (Go.Eng.HE.mk Bool.true (Go.Eng.HB.rows (Go.Sa.B.iKeySlot l)))), (Option.some (Go.Eng.HE.mk Bool.true (Go.Eng.HB.rows (Go.Sa.B.iKeySlot l1))))])
  | _, _ => none
theorem o_laws_eqVolumeRes_rr_ok (N : Nat) : FnOk E 31 (o_laws_eqVolumeRes_rr N) := by
  intro R args H K r h
  unfold o_laws_eqVolumeRes_rr at h
  dsimp only at h
  split at h
  · exact fnB_ok (ids := []) (top := []) ok (O_laws_eqVolumeRes_rr_ok N) (jn_ok _ _ _) Go.Proofs.Try.func31 (by kernel_rfl) (IT := noIt) (sl := sl_laws_eqVolumeRes_rr) (J := J_laws_eqVolumeRes_rr) (K := K) (H := [(Option.some (Go.Eng.HE.mk Bool.true (Go.Eng.HB.rows (Go.Sa.B.iKeySlot _)))), (Option.some (Go.Eng.HE.mk Bool.true (Go.Eng.HB.rows (Go.Sa.B.iKeySlot _))))]) (noIt_ok) (by kernel_rfl) rfl ((e_laws_eqVolumeRes_rr N _ _ _ _ _ _ _ _ K).trans h)
  · cases h
/-! ### loop.example/g00038/laws.markVolumeRes -/
abbrev sl_laws_markVolumeRes_w : SlotT := []
abbrev J_laws_markVolumeRes_w : JT := jn [] [] []
noncomputable def O_laws_markVolumeRes_w (N : Nat) : Orc E := addFn 53 (o_laws_markVolume_w N) (noFn)
theorem O_laws_markVolumeRes_w_ok (N : Nat) : OrcOk (O_laws_markVolumeRes_w N) := addFn_ok (o_laws_markVolume_w_ok N) (noFn_ok)
def g_laws_markVolumeRes_w (N : Nat) {R : Type} (n : Int) (b : Bool) (s : ByteArray) (n1 : Int) (l : List Go.Sa.KeySlot) (k : Int → (List Go.Sa.KeySlot) → Option R) : Option R :=
  (g_laws_markVolume_w N b s n1 l fun n2 l1 =>
  (k n2 l1))
theorem e_laws_markVolumeRes_w (N : Nat) {R : Type} (n : Int) (b : Bool) (s : ByteArray) (n1 : Int) (l : List Go.Sa.KeySlot) (K : AV → Hp E → Option R) :
    runFnI (E := E) (O_laws_markVolumeRes_w N) (noIt) sl_laws_markVolumeRes_w J_laws_markVolumeRes_w Go.Proofs.Try.f32 [(Go.Eng.AV.agg [(Go.Eng.SV.int Go.IntKind.i64 n), (Go.Eng.SV.slc 0 Option.none b), (Go.Eng.SV.str s)]), (Go.Eng.AV.sc (Go.Eng.SV.int Go.IntKind.i64 n1))] [(Option.some (Go.Eng.HE.mk Bool.false (Go.Eng.HB.rows (Go.Sa.B.iKeySlot l))))] K =
      g_laws_markVolumeRes_w N n b s n1 l (fun n3 l2 => K (Go.Eng.AV.sc (Go.Eng.SV.int Go.IntKind.i64 n3)) [(Option.some (Go.Eng.HE.mk Bool.false (Go.Eng.HB.rows (Go.Sa.B.iKeySlot l2))))]) := by kernel_rfl
def o_laws_markVolumeRes_w (N : Nat) {R : Type} (args : List AV) (H : Hp E) (K : AV → Hp E → Option R) : Option R :=
  match args, H with
  | [(Go.Eng.AV.agg [(Go.Eng.SV.int Go.IntKind.i64 n), (Go.Eng.SV.slc 0 Option.none b), (Go.Eng.SV.str s)]), (Go.Eng.AV.sc (Go.Eng.SV.int Go.IntKind.i64 n1))], [(Option.some (Go.Eng.HE.mk Bool.false (Go.Eng.HB.rows (Go.Sa.B.iKeySlot l))))] => g_laws_markVolumeRes_w N n b s n1 l (fun n3 l2 => K (Go.Eng.AV.sc (Go.Eng.SV.int Go.IntKind.i64 n3)) [(Option.some (Go.Eng.HE.mk Bool.false (Go.Eng.HB.rows (Go.Sa.B.iKeySlot l2))))])
  | _, _ => none
theorem o_laws_markVolumeRes_w_ok (N : Nat) : FnOk E 32 (o_laws_markVolumeRes_w N) := by
  intro R args H K r h
  unfold o_laws_markVolumeRes_w at h
  dsimp only at h
  split at h
  · exact fnB_ok (ids := []) (top := []) ok (O_laws_markVolumeRes_w_ok N) (jn_ok _ _ _) Go.Proofs.Try.func32 (by kernel_rfl) (IT := noIt) (sl := sl_laws_markVolumeRes_w) (J := J_laws_markVolumeRes_w) (K := K) (H := [(Option.some (Go.Eng.HE.mk Bool.false (Go.Eng.HB.rows (Go.Sa.B.iKeySlot _))))]) (noIt_ok) (by kernel_rfl) rfl ((e_laws_markVolumeRes_w N _ _ _ _ _ K).trans h)
  · cases h
/-! ### loop.example/g00038/laws.heldKeySlotS -/
abbrev sl_laws_heldKeySlotS_w : SlotT := [(0, ([0, 1, 5], [1, 4]))]
abbrev J_laws_heldKeySlotS_w : JT := jn [] [] []
noncomputable def O_laws_heldKeySlotS_w (N : Nat) : Orc E := addFn 122 (o_laws_markText N) (noFn)
theorem O_laws_heldKeySlotS_w_ok (N : Nat) : OrcOk (O_laws_heldKeySlotS_w N) := addFn_ok (o_laws_markText_ok N) (noFn_ok)
def s_laws_heldKeySlotS_w_0 (N : Nat) {R : Type} (b1 : Bool) (l1 : List Go.Sa.KeySlot) (n1 : Int) (n2 : Int) (ag : Int → Int → Option R)  (kR : Int → Option R) (kN : Int → Option R) : Option R :=
  (cond (decide ((n2 < (((List.length l1) : Nat) : Int))))
  (cond ((decide (((0 : Int) ≤ n2))) && (decide ((n2 < (((List.length l1) : Nat) : Int)))))
    (elemK l1 (Int.toNat n2) fun x =>
      (cond ((Go.Sa.KeySlot.fSalt x) != n1)
      (kR n1)
      (cond ((decide (((0 : Int) ≤ n2))) && (decide ((n2 < (((List.length l1) : Nat) : Int)))))
        (elemK l1 (Int.toNat n2) fun x1 =>
          (g_laws_markText N (Go.IntKind.wrap Go.IntKind.i64 (n1 + (1 : Int))) fun s =>
          (cond (!(decide (((Go.Sa.KeySlot.fKey x1) = s))))
          (kR (Go.IntKind.wrap Go.IntKind.i64 (n1 + (1 : Int))))
          (cond ((decide (((0 : Int) ≤ n2))) && (decide ((n2 < (((List.length l1) : Nat) : Int)))))
            (elemK l1 (Int.toNat n2) fun x2 =>
              (g_laws_markText N (Go.IntKind.wrap Go.IntKind.i64 ((Go.IntKind.wrap Go.IntKind.i64 (n1 + (1 : Int))) + (1 : Int))) fun s1 =>
              (cond (!(decide (((Go.Sa.KeySlot.fTag x2) = s1))))
              (kR (Go.IntKind.wrap Go.IntKind.i64 ((Go.IntKind.wrap Go.IntKind.i64 (n1 + (1 : Int))) + (1 : Int))))
              (ag (Go.IntKind.wrap Go.IntKind.i64 ((Go.IntKind.wrap Go.IntKind.i64 ((Go.IntKind.wrap Go.IntKind.i64 (n1 + (1 : Int))) + (1 : Int))) + (1 : Int))) (Go.IntKind.wrap Go.IntKind.i64 (n2 + (1 : Int)))))))
            none))))
        none)))
    none)
  (kN n1))
def l_laws_heldKeySlotS_w_0 (N : Nat) {R : Type} (b1 : Bool) (l1 : List Go.Sa.KeySlot) (kR : Int → Option R) (kN : Int → Option R) : Nat → Int → Int → Option R
  | 0, _, _ => none
  | f + 1, n1, n2 => s_laws_heldKeySlotS_w_0 N b1 l1 n1 n2 (fun n1 n2 => l_laws_heldKeySlotS_w_0 N b1 l1 kR kN f n1 n2)  kR kN
def c_laws_heldKeySlotS_w_0 (N : Nat) {R : Type} (b1 : Bool) (l1 : List Go.Sa.KeySlot) (n1 : Int) (n2 : Int) (kR : Int → Option R) (kN : Int → Option R) : Option R := l_laws_heldKeySlotS_w_0 N b1 l1 kR kN N n1 n2
theorem se_laws_heldKeySlotS_w_0 (N : Nat) {R : Type} (b1 : Bool) (l1 : List Go.Sa.KeySlot) (n1 : Int) (n2 : Int) (AG : List (Option AV) → Hp E → Option R) (KL : Ex → List (Option AV) → Hp E → Option R) :
    iterStep (E := E) (O_laws_heldKeySlotS_w N) (fun {R} => LI (noIt) 1 42 sl_laws_heldKeySlotS_w (R := R)) J_laws_heldKeySlotS_w 1 42 0 [0, 1, 5] [1, 4] (body Go.Proofs.Try.f114 0) AG KL [(Option.some (Go.Eng.AV.sc (Go.Eng.SV.slc 0 Option.none b1))), (Option.some (Go.Eng.AV.sc (Go.Eng.SV.int Go.IntKind.i64 n1))), (Option.some (Go.Eng.AV.sc (Go.Eng.SV.int Go.IntKind.i64 n2)))] [(Option.some (Go.Eng.HE.mk Bool.false (Go.Eng.HB.rows (Go.Sa.B.iKeySlot l1))))] =
      s_laws_heldKeySlotS_w_0 N b1 l1 n1 n2 (fun n1 n2 => AG [(Option.some (Go.Eng.AV.sc (Go.Eng.SV.slc 0 Option.none b1))), (Option.some (Go.Eng.AV.sc (Go.Eng.SV.int Go.IntKind.i64 n1))), (Option.some (Go.Eng.AV.sc (Go.Eng.SV.int Go.IntKind.i64 n2)))] [(Option.some (Go.Eng.HE.mk Bool.false (Go.Eng.HB.rows (Go.Sa.B.iKeySlot l1))))])  (fun n6 => KL Go.Eng.Ex.ret [(Option.some (Go.Eng.AV.sc (Go.Eng.SV.int Go.IntKind.i64 n6))), (Option.some (Go.Eng.AV.sc (Go.Eng.SV.int Go.IntKind.i64 (-(1 : Int)))))] [(Option.some (Go.Eng.HE.mk Bool.false (Go.Eng.HB.rows (Go.Sa.B.iKeySlot l1))))]) (fun n7 => KL Go.Eng.Ex.normal [(Option.some (Go.Eng.AV.sc (Go.Eng.SV.int Go.IntKind.i64 n7))), Option.none] [(Option.some (Go.Eng.HE.mk Bool.false (Go.Eng.HB.rows (Go.Sa.B.iKeySlot l1))))]) := by kernel_rfl
theorem le_laws_heldKeySlotS_w_0 (N : Nat) {R : Type} (b1 : Bool) (l1 : List Go.Sa.KeySlot) (KL : Ex → List (Option AV) → Hp E → Option R) : ∀ (f : Nat), ∀ (n1 : Int) (n2 : Int), iterK (E := E) (O_laws_heldKeySlotS_w N) (fun {R} => LI (noIt) 1 42 sl_laws_heldKeySlotS_w (R := R)) J_laws_heldKeySlotS_w 1 42 0 [0, 1, 5] [1, 4] (body Go.Proofs.Try.f114 0) f [(Option.some (Go.Eng.AV.sc (Go.Eng.SV.slc 0 Option.none b1))), (Option.some (Go.Eng.AV.sc (Go.Eng.SV.int Go.IntKind.i64 n1))), (Option.some (Go.Eng.AV.sc (Go.Eng.SV.int Go.IntKind.i64 n2)))] [(Option.some (Go.Eng.HE.mk Bool.false (Go.Eng.HB.rows (Go.Sa.B.iKeySlot l1))))] KL = l_laws_heldKeySlotS_w_0 N b1 l1 (fun n6 => KL Go.Eng.Ex.ret [(Option.some (Go.Eng.AV.sc (Go.Eng.SV.int Go.IntKind.i64 n6))), (Option.some (Go.Eng.AV.sc (Go.Eng.SV.int Go.IntKind.i64 (-(1 : Int)))))] [(Option.some (Go.Eng.HE.mk Bool.false (Go.Eng.HB.rows (Go.Sa.B.iKeySlot l1))))]) (fun n7 => KL Go.Eng.Ex.normal [(Option.some (Go.Eng.AV.sc (Go.Eng.SV.int Go.IntKind.i64 n7))), Option.none] [(Option.some (Go.Eng.HE.mk Bool.false (Go.Eng.HB.rows (Go.Sa.B.iKeySlot l1))))]) f n1 n2 := by
  intro f
  induction f with
  | zero => intros; rfl
  | succ f ih =>
    intro n1 n2
    rw [iterK_succ, se_laws_heldKeySlotS_w_0]
    exact (congrArg (fun z0 => s_laws_heldKeySlotS_w_0 N b1 l1 n1 n2 z0 (fun n6 => KL Go.Eng.Ex.ret [(Option.some (Go.Eng.AV.sc (Go.Eng.SV.int Go.IntKind.i64 n6))), (Option.some (Go.Eng.AV.sc (Go.Eng.SV.int Go.IntKind.i64 (-(1 : Int)))))] [(Option.some (Go.Eng.HE.mk Bool.false (Go.Eng.HB.rows (Go.Sa.B.iKeySlot l1))))]) (fun n7 => KL Go.Eng.Ex.normal [(Option.some (Go.Eng.AV.sc (Go.Eng.SV.int Go.IntKind.i64 n7))), Option.none] [(Option.some (Go.Eng.HE.mk Bool.false (Go.Eng.HB.rows (Go.Sa.B.iKeySlot l1))))])) (funext fun n1 => funext fun n2 => ih n1 n2))
def i_laws_heldKeySlotS_w_0 (N : Nat) {R : Type} (vs : List (Option AV)) (H : Hp E) (KL : Ex → List (Option AV) → Hp E → Option R) : Option R :=
  match vs, H with
  | [(Option.some (Go.Eng.AV.sc (Go.Eng.SV.slc 0 Option.none b1))), (Option.some (Go.Eng.AV.sc (Go.Eng.SV.int Go.IntKind.i64 n1))), (Option.some (Go.Eng.AV.sc (Go.Eng.SV.int Go.IntKind.i64 n2)))], [(Option.some (Go.Eng.HE.mk Bool.false (Go.Eng.HB.rows (Go.Sa.B.iKeySlot l1))))] => c_laws_heldKeySlotS_w_0 N b1 l1 n1 n2 (fun n8 => KL Go.Eng.Ex.ret [(Option.some (Go.Eng.AV.sc (Go.Eng.SV.int Go.IntKind.i64 n8))), (Option.some (Go.Eng.AV.sc (Go.Eng.SV.int Go.IntKind.i64 (-(1 : Int)))))] [(Option.some (Go.Eng.HE.mk Bool.false (Go.Eng.HB.rows (Go.Sa.B.iKeySlot l1))))]) (fun n9 => KL Go.Eng.Ex.normal [(Option.some (Go.Eng.AV.sc (Go.Eng.SV.int Go.IntKind.i64 n9))), Option.none] [(Option.some (Go.Eng.HE.mk Bool.false (Go.Eng.HB.rows (Go.Sa.B.iKeySlot l1))))])
  | _, _ => none
noncomputable def IT_laws_heldKeySlotS_w_0 (N : Nat) : Its E := addIt 0 (i_laws_heldKeySlotS_w_0 N) (noIt)
theorem IT_laws_heldKeySlotS_w_0_ok (N : Nat) : ItOk (IT_laws_heldKeySlotS_w_0 N) 1 42 sl_laws_heldKeySlotS_w (lsB Go.Proofs.Try.f114 [0]) :=
  addItB_ok (inner := []) ok (O_laws_heldKeySlotS_w_ok N) (jn_ok _ _ _) (noIt_ok) rfl (by kernel_rfl) rfl fun vs H KL r h => by
    unfold i_laws_heldKeySlotS_w_0 at h
    split at h
    · exact ⟨_, (le_laws_heldKeySlotS_w_0 N _ _ KL N _ _).trans h⟩
    · cases h
def g_laws_heldKeySlotS_w (N : Nat) {R : Type} (b : Bool) (n : Int) (l : List Go.Sa.KeySlot) (k : Int → Option R) : Option R :=
  (c_laws_heldKeySlotS_w_0 N b l n (0 : Int) (fun n3 =>
  (k (-(1 : Int)))) (fun n4 =>
  (k n4)))
theorem e_laws_heldKeySlotS_w (N : Nat) {R : Type} (b : Bool) (n : Int) (l : List Go.Sa.KeySlot) (K : AV → Hp E → Option R) :
    runFnI (E := E) (O_laws_heldKeySlotS_w N) (IT_laws_heldKeySlotS_w_0 N) sl_laws_heldKeySlotS_w J_laws_heldKeySlotS_w Go.Proofs.Try.f114 [(Go.Eng.AV.sc (Go.Eng.SV.slc 0 Option.none b)), (Go.Eng.AV.sc (Go.Eng.SV.int Go.IntKind.i64 n))] [(Option.some (Go.Eng.HE.mk Bool.false (Go.Eng.HB.rows (Go.Sa.B.iKeySlot l))))] K =
      g_laws_heldKeySlotS_w N b n l (fun n5 => K (Go.Eng.AV.sc (Go.Eng.SV.int Go.IntKind.i64 n5)) [(Option.some (Go.Eng.HE.mk Bool.false (Go.Eng.HB.rows (Go.Sa.B.iKeySlot l))))]) := by kernel_rfl
def o_laws_heldKeySlotS_w (N : Nat) {R : Type} (args : List AV) (H : Hp E) (K : AV → Hp E → Option R) : Option R :=
  match args, H with
  | [(Go.Eng.AV.sc (Go.Eng.SV.slc 0 Option.none b)), (Go.Eng.AV.sc (Go.Eng.SV.int Go.IntKind.i64 n))], [(Option.some (Go.Eng.HE.mk Bool.false (Go.Eng.HB.rows (Go.Sa.B.iKeySlot l))))] => g_laws_heldKeySlotS_w N b n l (fun n5 => K (Go.Eng.AV.sc (Go.Eng.SV.int Go.IntKind.i64 n5)) [(Option.some (Go.Eng.HE.mk Bool.false (Go.Eng.HB.rows (Go.Sa.B.iKeySlot l))))])
  | _, _ => none
theorem o_laws_heldKeySlotS_w_ok (N : Nat) : FnOk E 114 (o_laws_heldKeySlotS_w N) := by
  intro R args H K r h
  unfold o_laws_heldKeySlotS_w at h
  dsimp only at h
  split at h
  · exact fnB_ok (ids := [0]) (top := [0]) ok (O_laws_heldKeySlotS_w_ok N) (jn_ok _ _ _) Go.Proofs.Try.func114 (by kernel_rfl) (IT := IT_laws_heldKeySlotS_w_0 N) (sl := sl_laws_heldKeySlotS_w) (J := J_laws_heldKeySlotS_w) (K := K) (H := [(Option.some (Go.Eng.HE.mk Bool.false (Go.Eng.HB.rows (Go.Sa.B.iKeySlot _))))]) (IT_laws_heldKeySlotS_w_0_ok N) (by kernel_rfl) rfl ((e_laws_heldKeySlotS_w N _ _ _ K).trans h)
  · cases h
/-! ### loop.example/g00038/laws.heldVolume -/
abbrev sl_laws_heldVolume_w : SlotT := []
abbrev J_laws_heldVolume_w : JT := jn [] [] []
noncomputable def O_laws_heldVolume_w (N : Nat) : Orc E := addFn 114 (o_laws_heldKeySlotS_w N) (noFn)
theorem O_laws_heldVolume_w_ok (N : Nat) : OrcOk (O_laws_heldVolume_w N) := addFn_ok (o_laws_heldKeySlotS_w_ok N) (noFn_ok)
def g_laws_heldVolume_w (N : Nat) {R : Type} (b : Bool) (s : ByteArray) (n : Int) (l : List Go.Sa.KeySlot) (k : Int → Option R) : Option R :=
  (g_laws_heldKeySlotS_w N b n l fun n1 =>
  (cond (decide ((n1 < (0 : Int))))
  (k (-(1 : Int)))
  (k n1)))
theorem e_laws_heldVolume_w (N : Nat) {R : Type} (b : Bool) (s : ByteArray) (n : Int) (l : List Go.Sa.KeySlot) (K : AV → Hp E → Option R) :
    runFnI (E := E) (O_laws_heldVolume_w N) (noIt) sl_laws_heldVolume_w J_laws_heldVolume_w Go.Proofs.Try.f82 [(Go.Eng.AV.agg [(Go.Eng.SV.slc 0 Option.none b), (Go.Eng.SV.str s)]), (Go.Eng.AV.sc (Go.Eng.SV.int Go.IntKind.i64 n))] [(Option.some (Go.Eng.HE.mk Bool.false (Go.Eng.HB.rows (Go.Sa.B.iKeySlot l))))] K =
      g_laws_heldVolume_w N b s n l (fun n2 => K (Go.Eng.AV.sc (Go.Eng.SV.int Go.IntKind.i64 n2)) [(Option.some (Go.Eng.HE.mk Bool.false (Go.Eng.HB.rows (Go.Sa.B.iKeySlot l))))]) := by kernel_rfl
def o_laws_heldVolume_w (N : Nat) {R : Type} (args : List AV) (H : Hp E) (K : AV → Hp E → Option R) : Option R :=
  match args, H with
  | [(Go.Eng.AV.agg [(Go.Eng.SV.slc 0 Option.none b), (Go.Eng.SV.str s)]), (Go.Eng.AV.sc (Go.Eng.SV.int Go.IntKind.i64 n))], [(Option.some (Go.Eng.HE.mk Bool.false (Go.Eng.HB.rows (Go.Sa.B.iKeySlot l))))] => g_laws_heldVolume_w N b s n l (fun n2 => K (Go.Eng.AV.sc (Go.Eng.SV.int Go.IntKind.i64 n2)) [(Option.some (Go.Eng.HE.mk Bool.false (Go.Eng.HB.rows (Go.Sa.B.iKeySlot l))))])
  | _, _ => none
theorem o_laws_heldVolume_w_ok (N : Nat) : FnOk E 82 (o_laws_heldVolume_w N) := by
  intro R args H K r h
  unfold o_laws_heldVolume_w at h
  dsimp only at h
  split at h
  · exact fnB_ok (ids := []) (top := []) ok (O_laws_heldVolume_w_ok N) (jn_ok _ _ _) Go.Proofs.Try.func82 (by kernel_rfl) (IT := noIt) (sl := sl_laws_heldVolume_w) (J := J_laws_heldVolume_w) (K := K) (H := [(Option.some (Go.Eng.HE.mk Bool.false (Go.Eng.HB.rows (Go.Sa.B.iKeySlot _))))]) (noIt_ok) (by kernel_rfl) rfl ((e_laws_heldVolume_w N _ _ _ _ K).trans h)
  · cases h
/-! ### loop.example/g00038/laws.heldVolumeRes -/
abbrev sl_laws_heldVolumeRes_w : SlotT := []
abbrev J_laws_heldVolumeRes_w : JT := jn [] [] []
noncomputable def O_laws_heldVolumeRes_w (N : Nat) : Orc E := addFn 82 (o_laws_heldVolume_w N) (noFn)
theorem O_laws_heldVolumeRes_w_ok (N : Nat) : OrcOk (O_laws_heldVolumeRes_w N) := addFn_ok (o_laws_heldVolume_w_ok N) (noFn_ok)
def g_laws_heldVolumeRes_w (N : Nat) {R : Type} (n : Int) (b : Bool) (s : ByteArray) (n1 : Int) (l : List Go.Sa.KeySlot) (k : Int → Option R) : Option R :=
  (g_laws_heldVolume_w N b s n1 l fun n2 =>
  (cond (decide ((n2 < (0 : Int))))
  (k (-(1 : Int)))
  (k n2)))
theorem e_laws_heldVolumeRes_w (N : Nat) {R : Type} (n : Int) (b : Bool) (s : ByteArray) (n1 : Int) (l : List Go.Sa.KeySlot) (K : AV → Hp E → Option R) :
    runFnI (E := E) (O_laws_heldVolumeRes_w N) (noIt) sl_laws_heldVolumeRes_w J_laws_heldVolumeRes_w Go.Proofs.Try.f33 [(Go.Eng.AV.agg [(Go.Eng.SV.int Go.IntKind.i64 n), (Go.Eng.SV.slc 0 Option.none b), (Go.Eng.SV.str s)]), (Go.Eng.AV.sc (Go.Eng.SV.int Go.IntKind.i64 n1))] [(Option.some (Go.Eng.HE.mk Bool.false (Go.Eng.HB.rows (Go.Sa.B.iKeySlot l))))] K =
      g_laws_heldVolumeRes_w N n b s n1 l (fun n3 => K (Go.Eng.AV.sc (Go.Eng.SV.int Go.IntKind.i64 n3)) [(Option.some (Go.Eng.HE.mk Bool.false (Go.Eng.HB.rows (Go.Sa.B.iKeySlot l))))]) := by kernel_rfl
def o_laws_heldVolumeRes_w (N : Nat) {R : Type} (args : List AV) (H : Hp E) (K : AV → Hp E → Option R) : Option R :=
  match args, H with
  | [(Go.Eng.AV.agg [(Go.Eng.SV.int Go.IntKind.i64 n), (Go.Eng.SV.slc 0 Option.none b), (Go.Eng.SV.str s)]), (Go.Eng.AV.sc (Go.Eng.SV.int Go.IntKind.i64 n1))], [(Option.some (Go.Eng.HE.mk Bool.false (Go.Eng.HB.rows (Go.Sa.B.iKeySlot l))))] => g_laws_heldVolumeRes_w N n b s n1 l (fun n3 => K (Go.Eng.AV.sc (Go.Eng.SV.int Go.IntKind.i64 n3)) [(Option.some (Go.Eng.HE.mk Bool.false (Go.Eng.HB.rows (Go.Sa.B.iKeySlot l))))])
  | _, _ => none
theorem o_laws_heldVolumeRes_w_ok (N : Nat) : FnOk E 33 (o_laws_heldVolumeRes_w N) := by
  intro R args H K r h
  unfold o_laws_heldVolumeRes_w at h
  dsimp only at h
  split at h
  · exact fnB_ok (ids := []) (top := []) ok (O_laws_heldVolumeRes_w_ok N) (jn_ok _ _ _) Go.Proofs.Try.func33 (by kernel_rfl) (IT := noIt) (sl := sl_laws_heldVolumeRes_w) (J := J_laws_heldVolumeRes_w) (K := K) (H := [(Option.some (Go.Eng.HE.mk Bool.false (Go.Eng.HB.rows (Go.Sa.B.iKeySlot _))))]) (noIt_ok) (by kernel_rfl) rfl ((e_laws_heldVolumeRes_w N _ _ _ _ _ K).trans h)
  · cases h
/-! ### loop.example/g00038/laws.FnExactAddPass -/
def oc_laws_FnExactAddPass_r_31 (N : Nat) {R : Type} (args : List AV) (H : Hp E) (K : AV → Hp E → Option R) : Option R :=
  match args, H with
  | [(Go.Eng.AV.agg [(Go.Eng.SV.int Go.IntKind.i64 _), (Go.Eng.SV.slc 0 Option.none _), (Go.Eng.SV.str _)]), (Go.Eng.AV.agg [(Go.Eng.SV.int Go.IntKind.i64 _), (Go.Eng.SV.slc 1 Option.none _), (Go.Eng.SV.str _)])], [(Option.some (Go.Eng.HE.mk Bool.false (Go.Eng.HB.rows (Go.Sa.B.iKeySlot _)))), (Option.some (Go.Eng.HE.mk Bool.false (Go.Eng.HB.rows (Go.Sa.B.iKeySlot _))))] => o_laws_eqVolumeRes_ww N args H K
  | [(Go.Eng.AV.agg [(Go.Eng.SV.int Go.IntKind.i64 _), (Go.Eng.SV.slc 0 Option.none _), (Go.Eng.SV.str _)]), (Go.Eng.AV.agg [(Go.Eng.SV.int Go.IntKind.i64 _), (Go.Eng.SV.slc 1 Option.none _), (Go.Eng.SV.str _)])], [(Option.some (Go.Eng.HE.mk Bool.true (Go.Eng.HB.rows (Go.Sa.B.iKeySlot _)))), (Option.some (Go.Eng.HE.mk Bool.true (Go.Eng.HB.rows (Go.Sa.B.iKeySlot _))))] => o_laws_eqVolumeRes_rr N args H K
  | _, _ => none
theorem oc_laws_FnExactAddPass_r_31_ok (N : Nat) : FnOk E 31 (oc_laws_FnExactAddPass_r_31 N) := by
  intro R args H K r h
  unfold oc_laws_FnExactAddPass_r_31 at h
  dsimp only at h
  split at h
  · exact o_laws_eqVolumeRes_ww_ok N _ _ _ _ h
  · exact o_laws_eqVolumeRes_rr_ok N _ _ _ _ h
  · cases h
abbrev sl_laws_FnExactAddPass_r : SlotT := []
abbrev J_laws_FnExactAddPass_r : JT := jn [(18, [(60, .b)])] [] []
noncomputable def O_laws_FnExactAddPass_r (N : Nat) : Orc E := addFn 33 (o_laws_heldVolumeRes_w N) (addFn 32 (o_laws_markVolumeRes_w N) (addFn 53 (o_laws_markVolume_w N) (addFn 38 (o_laws_eqVolume_rr N) (addFn 31 (oc_laws_FnExactAddPass_r_31 N) (addFn 50 (o_impl_AddPass_w N) (addFn 52 (o_spec_AddPass_w N) (addFn 36 (o_laws_toVolume_r N) (addFn 34 (o_laws_szVolume_r N) (noFn)))))))))
theorem O_laws_FnExactAddPass_r_ok (N : Nat) : OrcOk (O_laws_FnExactAddPass_r N) := addFn_ok (o_laws_heldVolumeRes_w_ok N) (addFn_ok (o_laws_markVolumeRes_w_ok N) (addFn_ok (o_laws_markVolume_w_ok N) (addFn_ok (o_laws_eqVolume_rr_ok N) (addFn_ok (oc_laws_FnExactAddPass_r_31_ok N) (addFn_ok (o_impl_AddPass_w_ok N) (addFn_ok (o_spec_AddPass_w_ok N) (addFn_ok (o_laws_toVolume_r_ok N) (addFn_ok (o_laws_szVolume_r_ok N) (noFn_ok)))))))))
def g_laws_FnExactAddPass_r (N : Nat) {R : Type} (b : Bool) (s : ByteArray) (s1 : ByteArray) (s2 : ByteArray) (n : Int) (l : List Go.Sa.KeySlot) (k : Bool → Option R) : Option R :=
  (cond (decide (((((ByteArray.size s1) : Nat) : Int) > (1048576 : Int))))
  (k Bool.true)
  (cond (decide (((((ByteArray.size s2) : Nat) : Int) > (1048576 : Int))))
    (k Bool.true)
    (g_laws_szVolume_r N b s (1048576 : Int) l fun n1 =>
      (cond (decide ((n1 < (0 : Int))))
      (k Bool.true)
      (g_laws_toVolume_r N b s l fun l1 =>
        (g_spec_AddPass_w N Bool.false s s1 s2 n l1 fun n2 b1 s3 l2 =>
        (g_laws_toVolume_r N b s l fun l3 =>
        (g_impl_AddPass_w N Bool.false s s1 s2 n l3 fun n3 b2 s4 l4 =>
        (g_laws_eqVolumeRes_ww N n3 b2 s4 n2 b1 s3 l4 l2 fun b3 =>
        (cond (!b3)
        (k Bool.false)
        (g_laws_toVolume_r N b s l fun l5 =>
          (g_laws_eqVolume_rr N Bool.false s Bool.false s l3 l5 fun b4 =>
          (cond (!b4)
          (k Bool.false)
          (g_laws_markVolume_w N Bool.false s (1 : Int) l3 fun n4 l6 =>
            (oK (cond (decide ((n4 < (0 : Int))))
              (some Bool.true)
              (g_laws_eqVolumeRes_rr N n3 b2 s4 n2 b1 s3 l4 l2 fun b5 =>
                (some (!b5)))) fun j =>
            (cond j
            (k Bool.false)
            (g_laws_markVolumeRes_w N n3 b2 s4 (1 : Int) l4 fun n5 l7 =>
              (g_laws_heldVolumeRes_w N n3 b2 s4 (1 : Int) l7 fun n6 =>
              (cond (decide ((n6 < (0 : Int))))
              (k Bool.false)
              (cond (n6 != n5)
                (k Bool.false)
                (g_laws_toVolume_r N b s l fun l8 =>
                  (g_impl_AddPass_w N Bool.false s s1 s2 n l8 fun n7 b6 s5 l9 =>
                  (g_laws_eqVolumeRes_ww N n7 b6 s5 n2 b1 s3 l9 l2 fun b7 =>
                  (cond (!b7)
                  (k Bool.false)
                  (g_laws_heldVolumeRes_w N n3 b2 s4 (1 : Int) l7 fun n8 =>
                    (cond (decide ((n8 < (0 : Int))))
                    (k Bool.false)
                    (cond (n8 != n5)
                      (k Bool.false)
                      (k Bool.true))))))))))))))))))))))))))))
theorem e_laws_FnExactAddPass_r (N : Nat) {R : Type} (b : Bool) (s : ByteArray) (s1 : ByteArray) (s2 : ByteArray) (n : Int) (l : List Go.Sa.KeySlot) (K : AV → Hp E → Option R) :
    runFnI (E := E) (O_laws_FnExactAddPass_r N) (noIt) sl_laws_FnExactAddPass_r J_laws_FnExactAddPass_r Go.Proofs.Try.f11 [(Go.Eng.AV.agg [(Go.Eng.SV.slc 0 Option.none b), (Go.Eng.SV.str s)]), (Go.Eng.AV.sc (Go.Eng.SV.str s1)), (Go.Eng.AV.sc (Go.Eng.SV.str s2)), (Go.Eng.AV.sc (Go.Eng.SV.int Go.IntKind.i64 n))] [(Option.some (Go.Eng.HE.mk Bool.true (Go.Eng.HB.rows (Go.Sa.B.lKeySlot l))))] K =
      g_laws_FnExactAddPass_r N b s s1 s2 n l (fun b8 => K (Go.Eng.AV.sc (Go.Eng.SV.bool b8)) [(Option.some (Go.Eng.HE.mk Bool.true (Go.Eng.HB.rows (Go.Sa.B.lKeySlot l))))]) := by kernel_rfl
def o_laws_FnExactAddPass_r (N : Nat) {R : Type} (args : List AV) (H : Hp E) (K : AV → Hp E → Option R) : Option R :=
  match args, H with
  | [(Go.Eng.AV.agg [(Go.Eng.SV.slc 0 Option.none b), (Go.Eng.SV.str s)]), (Go.Eng.AV.sc (Go.Eng.SV.str s1)), (Go.Eng.AV.sc (Go.Eng.SV.str s2)), (Go.Eng.AV.sc (Go.Eng.SV.int Go.IntKind.i64 n))], [(Option.some (Go.Eng.HE.mk Bool.true (Go.Eng.HB.rows (Go.Sa.B.lKeySlot l))))] => g_laws_FnExactAddPass_r N b s s1 s2 n l (fun b8 => K (Go.Eng.AV.sc (Go.Eng.SV.bool b8)) [(Option.some (Go.Eng.HE.mk Bool.true (Go.Eng.HB.rows (Go.Sa.B.lKeySlot l))))])
  | _, _ => none
theorem o_laws_FnExactAddPass_r_ok (N : Nat) : FnOk E 11 (o_laws_FnExactAddPass_r N) := by
  intro R args H K r h
  unfold o_laws_FnExactAddPass_r at h
  dsimp only at h
  split at h
  · exact fnB_ok (ids := []) (top := []) ok (O_laws_FnExactAddPass_r_ok N) (jn_ok _ _ _) Go.Proofs.Try.func11 (by kernel_rfl) (IT := noIt) (sl := sl_laws_FnExactAddPass_r) (J := J_laws_FnExactAddPass_r) (K := K) (H := [(Option.some (Go.Eng.HE.mk Bool.true (Go.Eng.HB.rows (Go.Sa.B.lKeySlot _))))]) (noIt_ok) (by kernel_rfl) rfl ((e_laws_FnExactAddPass_r N _ _ _ _ _ _ K).trans h)
  · cases h
end Go.Sa
