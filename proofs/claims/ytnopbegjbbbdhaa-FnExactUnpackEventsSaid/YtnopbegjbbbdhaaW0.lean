import Derived.Test.YtnopbegjbbbdhaaSpec
import Derived.Test.YtnopbegjbbbdhaaPLb
set_option linter.all false
namespace Go.Sa
open Go Go.Eng Go.Proofs
set_option maxRecDepth 100000
/-! ### (*loop.example/g00038/spec.l13Cut).take -/
abbrev sl_spec_l13Cut_take_W : SlotT := []
abbrev J_spec_l13Cut_take_W : JT := jn [(1, [(23, .b)])] [] []
noncomputable def O_spec_l13Cut_take_W (N : Nat) : Orc E := noFn
theorem O_spec_l13Cut_take_W_ok (N : Nat) : OrcOk (O_spec_l13Cut_take_W N) := noFn_ok
def g_spec_l13Cut_take_W (N : Nat) {R : Type} (n : Int) (s : ByteArray) (n1 : Int) (b : Bool) (k : ByteArray → Int → Bool → Option R) : Option R :=
  (oK (cond b
    (some Bool.true)
    (some (decide ((n > (Go.IntKind.wrap Go.IntKind.i64 ((((ByteArray.size s) : Nat) : Int) - n1))))))) fun j =>
  (cond j
  (k (ByteArray.mk (List.toArray [])) n1 Bool.true)
  (cond (((decide (((0 : Int) ≤ n1))) && (decide ((n1 ≤ (Go.IntKind.wrap Go.IntKind.i64 (n1 + n)))))) && (decide (((Go.IntKind.wrap Go.IntKind.i64 (n1 + n)) ≤ (((ByteArray.size s) : Nat) : Int)))))
    (k (ByteArray.extract s (Int.toNat n1) (Int.toNat (Go.IntKind.wrap Go.IntKind.i64 (n1 + n)))) (Go.IntKind.wrap Go.IntKind.i64 (n1 + n)) b)
    none)))
theorem e_spec_l13Cut_take_W (N : Nat) {R : Type} (n : Int) (s : ByteArray) (n1 : Int) (b : Bool) (K : AV → Hp E → Option R) :
    runFnI (E := E) (O_spec_l13Cut_take_W N) (noIt) sl_spec_l13Cut_take_W J_spec_l13Cut_take_W Go.Proofs.Try.f179 [(Go.Eng.AV.sc (Go.Eng.SV.ptr 0 0 0)), (Go.Eng.AV.sc (Go.Eng.SV.int Go.IntKind.i64 n))] [(Option.some (Go.Eng.HE.mk Bool.false (Go.Eng.HB.exp Option.none [(Go.Eng.SV.str s), (Go.Eng.SV.int Go.IntKind.i64 n1), (Go.Eng.SV.bool b)])))] K =
      g_spec_l13Cut_take_W N n s n1 b (fun s1 n2 b1 => K (Go.Eng.AV.sc (Go.Eng.SV.str s1)) [(Option.some (Go.Eng.HE.mk Bool.false (Go.Eng.HB.exp Option.none [(Go.Eng.SV.str s), (Go.Eng.SV.int Go.IntKind.i64 n2), (Go.Eng.SV.bool b1)])))]) := by kernel_rfl
def o_spec_l13Cut_take_W (N : Nat) {R : Type} (args : List AV) (H : Hp E) (K : AV → Hp E → Option R) : Option R :=
  match args, H with
  | [(Go.Eng.AV.sc (Go.Eng.SV.ptr 0 0 0)), (Go.Eng.AV.sc (Go.Eng.SV.int Go.IntKind.i64 n))], [(Option.some (Go.Eng.HE.mk Bool.false (Go.Eng.HB.exp Option.none [(Go.Eng.SV.str s), (Go.Eng.SV.int Go.IntKind.i64 n1), (Go.Eng.SV.bool b)])))] => g_spec_l13Cut_take_W N n s n1 b (fun s1 n2 b1 => K (Go.Eng.AV.sc (Go.Eng.SV.str s1)) [(Option.some (Go.Eng.HE.mk Bool.false (Go.Eng.HB.exp Option.none [(Go.Eng.SV.str s), (Go.Eng.SV.int Go.IntKind.i64 n2), (Go.Eng.SV.bool b1)])))])
  | _, _ => none
theorem o_spec_l13Cut_take_W_ok (N : Nat) : FnOk E 179 (o_spec_l13Cut_take_W N) := by
  intro R args H K r h
  unfold o_spec_l13Cut_take_W at h
  dsimp only at h
  split at h
  · exact fnB_ok (ids := []) (top := []) ok (O_spec_l13Cut_take_W_ok N) (jn_ok _ _ _) Go.Proofs.Try.func179 (by kernel_rfl) (IT := noIt) (sl := sl_spec_l13Cut_take_W) (J := J_spec_l13Cut_take_W) (K := K) (H := [(Option.some (Go.Eng.HE.mk Bool.false (Go.Eng.HB.exp Option.none [(Go.Eng.SV.str _), (Go.Eng.SV.int Go.IntKind.i64 _), (Go.Eng.SV.bool _)])))]) (noIt_ok) (by kernel_rfl) rfl ((e_spec_l13Cut_take_W N _ _ _ _ K).trans h)
  · cases h
/-! ### loop.example/g00038/spec.l01Word -/
abbrev sl_spec_l01Word : SlotT := []
abbrev J_spec_l01Word : JT := jn [] [] []
noncomputable def O_spec_l01Word (N : Nat) : Orc E := noFn
theorem O_spec_l01Word_ok (N : Nat) : OrcOk (O_spec_l01Word N) := noFn_ok
def g_spec_l01Word (N : Nat) {R : Type} (s : ByteArray) (n : Int) (k : Int → Option R) : Option R :=
  (cond ((decide (((0 : Int) ≤ n))) && (decide ((n < (((ByteArray.size s) : Nat) : Int)))))
  (cond ((decide (((0 : Int) ≤ (Go.IntKind.wrap Go.IntKind.i64 (n + (1 : Int)))))) && (decide (((Go.IntKind.wrap Go.IntKind.i64 (n + (1 : Int))) < (((ByteArray.size s) : Nat) : Int)))))
    (cond ((decide (((0 : Int) ≤ (Go.IntKind.wrap Go.IntKind.i64 (n + (2 : Int)))))) && (decide (((Go.IntKind.wrap Go.IntKind.i64 (n + (2 : Int))) < (((ByteArray.size s) : Nat) : Int)))))
      (cond ((decide (((0 : Int) ≤ (Go.IntKind.wrap Go.IntKind.i64 (n + (3 : Int)))))) && (decide (((Go.IntKind.wrap Go.IntKind.i64 (n + (3 : Int))) < (((ByteArray.size s) : Nat) : Int)))))
        (k (Go.IntKind.wrap Go.IntKind.i64 ((Go.IntKind.wrap Go.IntKind.i64 ((Go.IntKind.wrap Go.IntKind.i64 ((Go.IntKind.wrap Go.IntKind.i64 (Go.Eng.bt s (Int.toNat n))) + (Go.IntKind.wrap Go.IntKind.i64 ((Go.IntKind.wrap Go.IntKind.i64 (Go.Eng.bt s (Int.toNat (Go.IntKind.wrap Go.IntKind.i64 (n + (1 : Int)))))) * (256 : Int))))) + (Go.IntKind.wrap Go.IntKind.i64 ((Go.IntKind.wrap Go.IntKind.i64 (Go.Eng.bt s (Int.toNat (Go.IntKind.wrap Go.IntKind.i64 (n + (2 : Int)))))) * (65536 : Int))))) + (Go.IntKind.wrap Go.IntKind.i64 ((Go.IntKind.wrap Go.IntKind.i64 (Go.Eng.bt s (Int.toNat (Go.IntKind.wrap Go.IntKind.i64 (n + (3 : Int)))))) * (16777216 : Int))))))
        none)
      none)
    none)
  none)
theorem e_spec_l01Word (N : Nat) {R : Type} (s : ByteArray) (n : Int) (K : AV → Hp E → Option R) :
    runFnI (E := E) (O_spec_l01Word N) (noIt) sl_spec_l01Word J_spec_l01Word Go.Proofs.Try.f79 [(Go.Eng.AV.sc (Go.Eng.SV.str s)), (Go.Eng.AV.sc (Go.Eng.SV.int Go.IntKind.i64 n))] [] K =
      g_spec_l01Word N s n (fun n1 => K (Go.Eng.AV.sc (Go.Eng.SV.int Go.IntKind.i64 n1)) []) := by kernel_rfl
def o_spec_l01Word (N : Nat) {R : Type} (args : List AV) (H : Hp E) (K : AV → Hp E → Option R) : Option R :=
  match args, H with
  | [(Go.Eng.AV.sc (Go.Eng.SV.str s)), (Go.Eng.AV.sc (Go.Eng.SV.int Go.IntKind.i64 n))], [] => g_spec_l01Word N s n (fun n1 => K (Go.Eng.AV.sc (Go.Eng.SV.int Go.IntKind.i64 n1)) [])
  | _, _ => none
theorem o_spec_l01Word_ok (N : Nat) : FnOk E 79 (o_spec_l01Word N) := by
  intro R args H K r h
  unfold o_spec_l01Word at h
  dsimp only at h
  split at h
  · exact fnB_ok (ids := []) (top := []) ok (O_spec_l01Word_ok N) (jn_ok _ _ _) Go.Proofs.Try.func79 (by kernel_rfl) (IT := noIt) (sl := sl_spec_l01Word) (J := J_spec_l01Word) (K := K) (H := []) (noIt_ok) (by kernel_rfl) rfl ((e_spec_l01Word N _ _ K).trans h)
  · cases h
/-! ### (*loop.example/g00038/spec.l13Cut).word -/
abbrev sl_spec_l13Cut_word_W : SlotT := []
abbrev J_spec_l13Cut_word_W : JT := jn [] [] []
noncomputable def O_spec_l13Cut_word_W (N : Nat) : Orc E := addFn 79 (o_spec_l01Word N) (addFn 179 (o_spec_l13Cut_take_W N) (noFn))
theorem O_spec_l13Cut_word_W_ok (N : Nat) : OrcOk (O_spec_l13Cut_word_W N) := addFn_ok (o_spec_l01Word_ok N) (addFn_ok (o_spec_l13Cut_take_W_ok N) (noFn_ok))
def g_spec_l13Cut_word_W (N : Nat) {R : Type} (s : ByteArray) (n : Int) (b : Bool) (k : Int → Int → Bool → Option R) : Option R :=
  (g_spec_l13Cut_take_W N (4 : Int) s n b fun s1 n1 b1 =>
  (cond (decide ((s1 = (ByteArray.mk (List.toArray [])))))
  (k (0 : Int) n1 b1)
  (g_spec_l01Word N s1 (0 : Int) fun n2 =>
    (k n2 n1 b1))))
theorem e_spec_l13Cut_word_W (N : Nat) {R : Type} (s : ByteArray) (n : Int) (b : Bool) (K : AV → Hp E → Option R) :
    runFnI (E := E) (O_spec_l13Cut_word_W N) (noIt) sl_spec_l13Cut_word_W J_spec_l13Cut_word_W Go.Proofs.Try.f170 [(Go.Eng.AV.sc (Go.Eng.SV.ptr 0 0 0))] [(Option.some (Go.Eng.HE.mk Bool.false (Go.Eng.HB.exp Option.none [(Go.Eng.SV.str s), (Go.Eng.SV.int Go.IntKind.i64 n), (Go.Eng.SV.bool b)])))] K =
      g_spec_l13Cut_word_W N s n b (fun n3 n4 b2 => K (Go.Eng.AV.sc (Go.Eng.SV.int Go.IntKind.i64 n3)) [(Option.some (Go.Eng.HE.mk Bool.false (Go.Eng.HB.exp Option.none [(Go.Eng.SV.str s), (Go.Eng.SV.int Go.IntKind.i64 n4), (Go.Eng.SV.bool b2)])))]) := by kernel_rfl
def o_spec_l13Cut_word_W (N : Nat) {R : Type} (args : List AV) (H : Hp E) (K : AV → Hp E → Option R) : Option R :=
  match args, H with
  | [(Go.Eng.AV.sc (Go.Eng.SV.ptr 0 0 0))], [(Option.some (Go.Eng.HE.mk Bool.false (Go.Eng.HB.exp Option.none [(Go.Eng.SV.str s), (Go.Eng.SV.int Go.IntKind.i64 n), (Go.Eng.SV.bool b)])))] => g_spec_l13Cut_word_W N s n b (fun n3 n4 b2 => K (Go.Eng.AV.sc (Go.Eng.SV.int Go.IntKind.i64 n3)) [(Option.some (Go.Eng.HE.mk Bool.false (Go.Eng.HB.exp Option.none [(Go.Eng.SV.str s), (Go.Eng.SV.int Go.IntKind.i64 n4), (Go.Eng.SV.bool b2)])))])
  | _, _ => none
theorem o_spec_l13Cut_word_W_ok (N : Nat) : FnOk E 170 (o_spec_l13Cut_word_W N) := by
  intro R args H K r h
  unfold o_spec_l13Cut_word_W at h
  dsimp only at h
  split at h
  · exact fnB_ok (ids := []) (top := []) ok (O_spec_l13Cut_word_W_ok N) (jn_ok _ _ _) Go.Proofs.Try.func170 (by kernel_rfl) (IT := noIt) (sl := sl_spec_l13Cut_word_W) (J := J_spec_l13Cut_word_W) (K := K) (H := [(Option.some (Go.Eng.HE.mk Bool.false (Go.Eng.HB.exp Option.none [(Go.Eng.SV.str _), (Go.Eng.SV.int Go.IntKind.i64 _), (Go.Eng.SV.bool _)])))]) (noIt_ok) (by kernel_rfl) rfl ((e_spec_l13Cut_word_W N _ _ _ K).trans h)
  · cases h
/-! ### (*loop.example/g00038/spec.l13Cut).words -/
abbrev sl_spec_l13Cut_words_W : SlotT := [(0, ([0, 1, 5, 6], [5]))]
abbrev J_spec_l13Cut_words_W : JT := jn [] [] []
noncomputable def O_spec_l13Cut_words_W (N : Nat) : Orc E := addFn 170 (o_spec_l13Cut_word_W N) (noFn)
theorem O_spec_l13Cut_words_W_ok (N : Nat) : OrcOk (O_spec_l13Cut_words_W N) := addFn_ok (o_spec_l13Cut_word_W_ok N) (noFn_ok)
def s_spec_l13Cut_words_W_0 (N : Nat) {R : Type} (n2 : Int) (s1 : ByteArray) (b1 : Bool) (n3 : Int) (n4 : Int) (b2 : Bool) (l : List Int) (ag : Bool → Int → Int → Bool → (List Int) → Option R)  (kN : Bool → Int → Bool → (List Int) → Option R) : Option R :=
  (cond (decide ((n3 < n2)))
  (g_spec_l13Cut_word_W N s1 n4 b2 fun n5 n6 b3 =>
    (cond (Go.Eng.roomOk ((List.length l) + (List.length [n5])) 8)
    (ag (cond (Nat.beq (List.length [n5]) 0) b1 Bool.false) (Go.IntKind.wrap Go.IntKind.i64 (n3 + (1 : Int))) n6 b3 (l ++ [n5]))
    none))
  (kN b1 n4 b2 l))
def l_spec_l13Cut_words_W_0 (N : Nat) {R : Type} (n2 : Int) (s1 : ByteArray) (kN : Bool → Int → Bool → (List Int) → Option R) : Nat → Bool → Int → Int → Bool → (List Int) → Option R
  | 0, _, _, _, _, _ => none
  | f + 1, b1, n3, n4, b2, l => s_spec_l13Cut_words_W_0 N n2 s1 b1 n3 n4 b2 l (fun b1 n3 n4 b2 l => l_spec_l13Cut_words_W_0 N n2 s1 kN f b1 n3 n4 b2 l)  kN
def c_spec_l13Cut_words_W_0 (N : Nat) {R : Type} (n2 : Int) (s1 : ByteArray) (b1 : Bool) (n3 : Int) (n4 : Int) (b2 : Bool) (l : List Int) (kN : Bool → Int → Bool → (List Int) → Option R) : Option R := l_spec_l13Cut_words_W_0 N n2 s1 kN N b1 n3 n4 b2 l
theorem se_spec_l13Cut_words_W_0 (N : Nat) {R : Type} (n2 : Int) (s1 : ByteArray) (b1 : Bool) (n3 : Int) (n4 : Int) (b2 : Bool) (l : List Int) (AG : List (Option AV) → Hp E → Option R) (KL : Ex → List (Option AV) → Hp E → Option R) :
    iterStep (E := E) (O_spec_l13Cut_words_W N) (fun {R} => LI (noIt) 1 19 sl_spec_l13Cut_words_W (R := R)) J_spec_l13Cut_words_W 1 19 0 [0, 1, 5, 6] [5] (body Go.Proofs.Try.f124 0) AG KL [(Option.some (Go.Eng.AV.sc (Go.Eng.SV.ptr 0 0 0))), (Option.some (Go.Eng.AV.sc (Go.Eng.SV.int Go.IntKind.i64 n2))), (Option.some (Go.Eng.AV.sc (Go.Eng.SV.slc 1 Option.none b1))), (Option.some (Go.Eng.AV.sc (Go.Eng.SV.int Go.IntKind.i64 n3)))] [(Option.some (Go.Eng.HE.mk Bool.false (Go.Eng.HB.exp Option.none [(Go.Eng.SV.str s1), (Go.Eng.SV.int Go.IntKind.i64 n4), (Go.Eng.SV.bool b2)]))), (Option.some (Go.Eng.HE.mk Bool.false (Go.Eng.HB.rows (Go.Sa.B.i64 l))))] =
      s_spec_l13Cut_words_W_0 N n2 s1 b1 n3 n4 b2 l (fun b1 n3 n4 b2 l => AG [(Option.some (Go.Eng.AV.sc (Go.Eng.SV.ptr 0 0 0))), (Option.some (Go.Eng.AV.sc (Go.Eng.SV.int Go.IntKind.i64 n2))), (Option.some (Go.Eng.AV.sc (Go.Eng.SV.slc 1 Option.none b1))), (Option.some (Go.Eng.AV.sc (Go.Eng.SV.int Go.IntKind.i64 n3)))] [(Option.some (Go.Eng.HE.mk Bool.false (Go.Eng.HB.exp Option.none [(Go.Eng.SV.str s1), (Go.Eng.SV.int Go.IntKind.i64 n4), (Go.Eng.SV.bool b2)]))), (Option.some (Go.Eng.HE.mk Bool.false (Go.Eng.HB.rows (Go.Sa.B.i64 l))))])  (fun b8 n9 b9 l3 => KL Go.Eng.Ex.normal [(Option.some (Go.Eng.AV.sc (Go.Eng.SV.slc 1 Option.none b8)))] [(Option.some (Go.Eng.HE.mk Bool.false (Go.Eng.HB.exp Option.none [(Go.Eng.SV.str s1), (Go.Eng.SV.int Go.IntKind.i64 n9), (Go.Eng.SV.bool b9)]))), (Option.some (Go.Eng.HE.mk Bool.false (Go.Eng.HB.rows (Go.Sa.B.i64 l3))))]) := by kernel_rfl
theorem le_spec_l13Cut_words_W_0 (N : Nat) {R : Type} (n2 : Int) (s1 : ByteArray) (KL : Ex → List (Option AV) → Hp E → Option R) : ∀ (f : Nat), ∀ (b1 : Bool) (n3 : Int) (n4 : Int) (b2 : Bool) (l : List Int), iterK (E := E) (O_spec_l13Cut_words_W N) (fun {R} => LI (noIt) 1 19 sl_spec_l13Cut_words_W (R := R)) J_spec_l13Cut_words_W 1 19 0 [0, 1, 5, 6] [5] (body Go.Proofs.Try.f124 0) f [(Option.some (Go.Eng.AV.sc (Go.Eng.SV.ptr 0 0 0))), (Option.some (Go.Eng.AV.sc (Go.Eng.SV.int Go.IntKind.i64 n2))), (Option.some (Go.Eng.AV.sc (Go.Eng.SV.slc 1 Option.none b1))), (Option.some (Go.Eng.AV.sc (Go.Eng.SV.int Go.IntKind.i64 n3)))] [(Option.some (Go.Eng.HE.mk Bool.false (Go.Eng.HB.exp Option.none [(Go.Eng.SV.str s1), (Go.Eng.SV.int Go.IntKind.i64 n4), (Go.Eng.SV.bool b2)]))), (Option.some (Go.Eng.HE.mk Bool.false (Go.Eng.HB.rows (Go.Sa.B.i64 l))))] KL = l_spec_l13Cut_words_W_0 N n2 s1 (fun b8 n9 b9 l3 => KL Go.Eng.Ex.normal [(Option.some (Go.Eng.AV.sc (Go.Eng.SV.slc 1 Option.none b8)))] [(Option.some (Go.Eng.HE.mk Bool.false (Go.Eng.HB.exp Option.none [(Go.Eng.SV.str s1), (Go.Eng.SV.int Go.IntKind.i64 n9), (Go.Eng.SV.bool b9)]))), (Option.some (Go.Eng.HE.mk Bool.false (Go.Eng.HB.rows (Go.Sa.B.i64 l3))))]) f b1 n3 n4 b2 l := by
  intro f
  induction f with
  | zero => intros; rfl
  | succ f ih =>
    intro b1 n3 n4 b2 l
    rw [iterK_succ, se_spec_l13Cut_words_W_0]
    exact (congrArg (fun z0 => s_spec_l13Cut_words_W_0 N n2 s1 b1 n3 n4 b2 l z0 (fun b8 n9 b9 l3 => KL Go.Eng.Ex.normal [(Option.some (Go.Eng.AV.sc (Go.Eng.SV.slc 1 Option.none b8)))] [(Option.some (Go.Eng.HE.mk Bool.false (Go.Eng.HB.exp Option.none [(Go.Eng.SV.str s1), (Go.Eng.SV.int Go.IntKind.i64 n9), (Go.Eng.SV.bool b9)]))), (Option.some (Go.Eng.HE.mk Bool.false (Go.Eng.HB.rows (Go.Sa.B.i64 l3))))])) (funext fun b1 => funext fun n3 => funext fun n4 => funext fun b2 => funext fun l => ih b1 n3 n4 b2 l))
def i_spec_l13Cut_words_W_0 (N : Nat) {R : Type} (vs : List (Option AV)) (H : Hp E) (KL : Ex → List (Option AV) → Hp E → Option R) : Option R :=
  match vs, H with
  | [(Option.some (Go.Eng.AV.sc (Go.Eng.SV.ptr 0 0 0))), (Option.some (Go.Eng.AV.sc (Go.Eng.SV.int Go.IntKind.i64 n2))), (Option.some (Go.Eng.AV.sc (Go.Eng.SV.slc 1 Option.none b1))), (Option.some (Go.Eng.AV.sc (Go.Eng.SV.int Go.IntKind.i64 n3)))], [(Option.some (Go.Eng.HE.mk Bool.false (Go.Eng.HB.exp Option.none [(Go.Eng.SV.str s1), (Go.Eng.SV.int Go.IntKind.i64 n4), (Go.Eng.SV.bool b2)]))), (Option.some (Go.Eng.HE.mk Bool.false (Go.Eng.HB.rows (Go.Sa.B.i64 l))))] => c_spec_l13Cut_words_W_0 N n2 s1 b1 n3 n4 b2 l (fun b10 n10 b11 l4 => KL Go.Eng.Ex.normal [(Option.some (Go.Eng.AV.sc (Go.Eng.SV.slc 1 Option.none b10)))] [(Option.some (Go.Eng.HE.mk Bool.false (Go.Eng.HB.exp Option.none [(Go.Eng.SV.str s1), (Go.Eng.SV.int Go.IntKind.i64 n10), (Go.Eng.SV.bool b11)]))), (Option.some (Go.Eng.HE.mk Bool.false (Go.Eng.HB.rows (Go.Sa.B.i64 l4))))])
  | _, _ => none
noncomputable def IT_spec_l13Cut_words_W_0 (N : Nat) : Its E := addIt 0 (i_spec_l13Cut_words_W_0 N) (noIt)
theorem IT_spec_l13Cut_words_W_0_ok (N : Nat) : ItOk (IT_spec_l13Cut_words_W_0 N) 1 19 sl_spec_l13Cut_words_W (lsB Go.Proofs.Try.f124 [0]) :=
  addItB_ok (inner := []) ok (O_spec_l13Cut_words_W_ok N) (jn_ok _ _ _) (noIt_ok) rfl (by kernel_rfl) rfl fun vs H KL r h => by
    unfold i_spec_l13Cut_words_W_0 at h
    split at h
    · exact ⟨_, (le_spec_l13Cut_words_W_0 N _ _ KL N _ _ _ _ _).trans h⟩
    · cases h
def g_spec_l13Cut_words_W (N : Nat) {R : Type} (n : Int) (s : ByteArray) (n1 : Int) (b : Bool) (k : Bool → Int → Bool → (List Int) → Option R) : Option R :=
  (c_spec_l13Cut_words_W_0 N n s Bool.false (0 : Int) n1 b [] fun b4 n7 b5 l1 =>
  (k b4 n7 b5 l1))
theorem e_spec_l13Cut_words_W (N : Nat) {R : Type} (n : Int) (s : ByteArray) (n1 : Int) (b : Bool) (K : AV → Hp E → Option R) :
    runFnI (E := E) (O_spec_l13Cut_words_W N) (IT_spec_l13Cut_words_W_0 N) sl_spec_l13Cut_words_W J_spec_l13Cut_words_W Go.Proofs.Try.f124 [(Go.Eng.AV.sc (Go.Eng.SV.ptr 0 0 0)), (Go.Eng.AV.sc (Go.Eng.SV.int Go.IntKind.i64 n))] [(Option.some (Go.Eng.HE.mk Bool.false (Go.Eng.HB.exp Option.none [(Go.Eng.SV.str s), (Go.Eng.SV.int Go.IntKind.i64 n1), (Go.Eng.SV.bool b)])))] K =
      g_spec_l13Cut_words_W N n s n1 b (fun b6 n8 b7 l2 => K (Go.Eng.AV.sc (Go.Eng.SV.slc 1 Option.none b6)) [(Option.some (Go.Eng.HE.mk Bool.false (Go.Eng.HB.exp Option.none [(Go.Eng.SV.str s), (Go.Eng.SV.int Go.IntKind.i64 n8), (Go.Eng.SV.bool b7)]))), (Option.some (Go.Eng.HE.mk Bool.false (Go.Eng.HB.rows (Go.Sa.B.i64 l2))))]) := by kernel_rfl
def o_spec_l13Cut_words_W (N : Nat) {R : Type} (args : List AV) (H : Hp E) (K : AV → Hp E → Option R) : Option R :=
  match args, H with
  | [(Go.Eng.AV.sc (Go.Eng.SV.ptr 0 0 0)), (Go.Eng.AV.sc (Go.Eng.SV.int Go.IntKind.i64 n))], [(Option.some (Go.Eng.HE.mk Bool.false (Go.Eng.HB.exp Option.none [(Go.Eng.SV.str s), (Go.Eng.SV.int Go.IntKind.i64 n1), (Go.Eng.SV.bool b)])))] => g_spec_l13Cut_words_W N n s n1 b (fun b6 n8 b7 l2 => K (Go.Eng.AV.sc (Go.Eng.SV.slc 1 Option.none b6)) [(Option.some (Go.Eng.HE.mk Bool.false (Go.Eng.HB.exp Option.none [(Go.Eng.SV.str s), (Go.Eng.SV.int Go.IntKind.i64 n8), (Go.Eng.SV.bool b7)]))), (Option.some (Go.Eng.HE.mk Bool.false (Go.Eng.HB.rows (Go.Sa.B.i64 l2))))])
  | _, _ => none
theorem o_spec_l13Cut_words_W_ok (N : Nat) : FnOk E 124 (o_spec_l13Cut_words_W N) := by
  intro R args H K r h
  unfold o_spec_l13Cut_words_W at h
  dsimp only at h
  split at h
  · exact fnB_ok (ids := [0]) (top := [0]) ok (O_spec_l13Cut_words_W_ok N) (jn_ok _ _ _) Go.Proofs.Try.func124 (by kernel_rfl) (IT := IT_spec_l13Cut_words_W_0 N) (sl := sl_spec_l13Cut_words_W) (J := J_spec_l13Cut_words_W) (K := K) (H := [(Option.some (Go.Eng.HE.mk Bool.false (Go.Eng.HB.exp Option.none [(Go.Eng.SV.str _), (Go.Eng.SV.int Go.IntKind.i64 _), (Go.Eng.SV.bool _)])))]) (IT_spec_l13Cut_words_W_0_ok N) (by kernel_rfl) rfl ((e_spec_l13Cut_words_W N _ _ _ _ K).trans h)
  · cases h
/-! ### loop.example/g00038/spec.l01IsWord -/
abbrev sl_spec_l01IsWord : SlotT := []
abbrev J_spec_l01IsWord : JT := jn [(1, [(2, .b)])] [] []
noncomputable def O_spec_l01IsWord (N : Nat) : Orc E := noFn
theorem O_spec_l01IsWord_ok (N : Nat) : OrcOk (O_spec_l01IsWord N) := noFn_ok
def g_spec_l01IsWord (N : Nat) {R : Type} (n : Int) (k : Bool → Option R) : Option R :=
  (oK (cond (decide ((n ≥ (0 : Int))))
    (some (decide ((n < (4294967296 : Int)))))
    (some Bool.false)) fun j =>
  (k j))
theorem e_spec_l01IsWord (N : Nat) {R : Type} (n : Int) (K : AV → Hp E → Option R) :
    runFnI (E := E) (O_spec_l01IsWord N) (noIt) sl_spec_l01IsWord J_spec_l01IsWord Go.Proofs.Try.f114 [(Go.Eng.AV.sc (Go.Eng.SV.int Go.IntKind.i64 n))] [] K =
      g_spec_l01IsWord N n (fun b => K (Go.Eng.AV.sc (Go.Eng.SV.bool b)) []) := by kernel_rfl
def o_spec_l01IsWord (N : Nat) {R : Type} (args : List AV) (H : Hp E) (K : AV → Hp E → Option R) : Option R :=
  match args, H with
  | [(Go.Eng.AV.sc (Go.Eng.SV.int Go.IntKind.i64 n))], [] => g_spec_l01IsWord N n (fun b => K (Go.Eng.AV.sc (Go.Eng.SV.bool b)) [])
  | _, _ => none
theorem o_spec_l01IsWord_ok (N : Nat) : FnOk E 114 (o_spec_l01IsWord N) := by
  intro R args H K r h
  unfold o_spec_l01IsWord at h
  dsimp only at h
  split at h
  · exact fnB_ok (ids := []) (top := []) ok (O_spec_l01IsWord_ok N) (jn_ok _ _ _) Go.Proofs.Try.func114 (by kernel_rfl) (IT := noIt) (sl := sl_spec_l01IsWord) (J := J_spec_l01IsWord) (K := K) (H := []) (noIt_ok) (by kernel_rfl) rfl ((e_spec_l01IsWord N _ K).trans h)
  · cases h
/-! ### loop.example/g00038/spec.EventsFault -/
abbrev sl_spec_EventsFault_w : SlotT := [(0, ([0, 3], [2]))]
abbrev J_spec_EventsFault_w : JT := jn [(7, [(40, .b)]), (12, [(57, .b)]), (15, [(73, .b)])] [] []
noncomputable def O_spec_EventsFault_w (N : Nat) : Orc E := addFn 114 (o_spec_l01IsWord N) (noFn)
theorem O_spec_EventsFault_w_ok (N : Nat) : OrcOk (O_spec_EventsFault_w N) := addFn_ok (o_spec_l01IsWord_ok N) (noFn_ok)
def s_spec_EventsFault_w_0 (N : Nat) {R : Type} (b1 : Bool) (l1 : List Go.Sa.Event) (n : Int) (ag : Int → Option R)  (kR : Option R) (kN : Option R) : Option R :=
  (cond (decide ((n < (((List.length l1) : Nat) : Int))))
  (cond ((decide (((0 : Int) ≤ n))) && (decide ((n < (((List.length l1) : Nat) : Int)))))
    (elemK l1 (Int.toNat n) fun x =>
      (oK (cond (decide (((Go.Sa.Event.fAt x) < (0 : Int))))
        (some Bool.true)
        (cond (decide (((Go.Sa.Event.fAt x) > (1099511627776 : Int))))
          (some Bool.true)
          (cond (decide ((n > (0 : Int))))
            (cond ((decide (((0 : Int) ≤ (Go.IntKind.wrap Go.IntKind.i64 (n - (1 : Int)))))) && (decide (((Go.IntKind.wrap Go.IntKind.i64 (n - (1 : Int))) < (((List.length l1) : Nat) : Int)))))
              (elemK l1 (Int.toNat (Go.IntKind.wrap Go.IntKind.i64 (n - (1 : Int)))) fun x1 =>
                (some (decide (((Go.Sa.Event.fAt x) < (Go.Sa.Event.fAt x1))))))
              none)
            (some Bool.false)))) fun j =>
      (cond j
      kR
      (cond ((Go.Sa.Event.fKind x) == (1 : Int))
        (oK (cond (decide (((Go.Sa.Event.fNum x) < (0 : Int))))
            (some Bool.true)
            (cond (decide (((Go.Sa.Event.fNum x) > (6 : Int))))
              (some Bool.true)
              (some ((Go.Sa.Event.fValue x) != (0 : Int))))) fun j1 =>
          (cond j1
          kR
          (ag (Go.IntKind.wrap Go.IntKind.i64 (n + (1 : Int))))))
        (cond ((Go.Sa.Event.fKind x) == (2 : Int))
          (oK (cond (decide (((Go.Sa.Event.fNum x) < (0 : Int))))
              (some Bool.true)
              (cond (decide (((Go.Sa.Event.fNum x) > (2047 : Int))))
                (some Bool.true)
                (g_spec_l01IsWord N (Go.Sa.Event.fValue x) fun b2 =>
                  (some (!b2))))) fun j2 =>
            (cond j2
            kR
            (ag (Go.IntKind.wrap Go.IntKind.i64 (n + (1 : Int))))))
          kR)))))
    none)
  kN)
def l_spec_EventsFault_w_0 (N : Nat) {R : Type} (b1 : Bool) (l1 : List Go.Sa.Event) (kR : Option R) (kN : Option R) : Nat → Int → Option R
  | 0, _ => none
  | f + 1, n => s_spec_EventsFault_w_0 N b1 l1 n (fun n => l_spec_EventsFault_w_0 N b1 l1 kR kN f n)  kR kN
def c_spec_EventsFault_w_0 (N : Nat) {R : Type} (b1 : Bool) (l1 : List Go.Sa.Event) (n : Int) (kR : Option R) (kN : Option R) : Option R := l_spec_EventsFault_w_0 N b1 l1 kR kN N n
theorem se_spec_EventsFault_w_0 (N : Nat) {R : Type} (b1 : Bool) (l1 : List Go.Sa.Event) (n : Int) (AG : List (Option AV) → Hp E → Option R) (KL : Ex → List (Option AV) → Hp E → Option R) :
    iterStep (E := E) (O_spec_EventsFault_w N) (fun {R} => LI (noIt) 1 74 sl_spec_EventsFault_w (R := R)) J_spec_EventsFault_w 1 74 0 [0, 3] [2] (body Go.Proofs.Try.f171 0) AG KL [(Option.some (Go.Eng.AV.sc (Go.Eng.SV.slc 0 Option.none b1))), (Option.some (Go.Eng.AV.sc (Go.Eng.SV.int Go.IntKind.i64 n)))] [(Option.some (Go.Eng.HE.mk Bool.false (Go.Eng.HB.rows (Go.Sa.B.iEvent l1))))] =
      s_spec_EventsFault_w_0 N b1 l1 n (fun n => AG [(Option.some (Go.Eng.AV.sc (Go.Eng.SV.slc 0 Option.none b1))), (Option.some (Go.Eng.AV.sc (Go.Eng.SV.int Go.IntKind.i64 n)))] [(Option.some (Go.Eng.HE.mk Bool.false (Go.Eng.HB.rows (Go.Sa.B.iEvent l1))))])  (KL Go.Eng.Ex.ret [(Option.some (Go.Eng.AV.sc (Go.Eng.SV.int Go.IntKind.i64 (1 : Int))))] [(Option.some (Go.Eng.HE.mk Bool.false (Go.Eng.HB.rows (Go.Sa.B.iEvent l1))))]) (KL Go.Eng.Ex.normal [Option.none] [(Option.some (Go.Eng.HE.mk Bool.false (Go.Eng.HB.rows (Go.Sa.B.iEvent l1))))]) := by kernel_rfl
theorem le_spec_EventsFault_w_0 (N : Nat) {R : Type} (b1 : Bool) (l1 : List Go.Sa.Event) (KL : Ex → List (Option AV) → Hp E → Option R) : ∀ (f : Nat), ∀ (n : Int), iterK (E := E) (O_spec_EventsFault_w N) (fun {R} => LI (noIt) 1 74 sl_spec_EventsFault_w (R := R)) J_spec_EventsFault_w 1 74 0 [0, 3] [2] (body Go.Proofs.Try.f171 0) f [(Option.some (Go.Eng.AV.sc (Go.Eng.SV.slc 0 Option.none b1))), (Option.some (Go.Eng.AV.sc (Go.Eng.SV.int Go.IntKind.i64 n)))] [(Option.some (Go.Eng.HE.mk Bool.false (Go.Eng.HB.rows (Go.Sa.B.iEvent l1))))] KL = l_spec_EventsFault_w_0 N b1 l1 (KL Go.Eng.Ex.ret [(Option.some (Go.Eng.AV.sc (Go.Eng.SV.int Go.IntKind.i64 (1 : Int))))] [(Option.some (Go.Eng.HE.mk Bool.false (Go.Eng.HB.rows (Go.Sa.B.iEvent l1))))]) (KL Go.Eng.Ex.normal [Option.none] [(Option.some (Go.Eng.HE.mk Bool.false (Go.Eng.HB.rows (Go.Sa.B.iEvent l1))))]) f n := by
  intro f
  induction f with
  | zero => intros; rfl
  | succ f ih =>
    intro n
    rw [iterK_succ, se_spec_EventsFault_w_0]
    exact (congrArg (fun z0 => s_spec_EventsFault_w_0 N b1 l1 n z0 (KL Go.Eng.Ex.ret [(Option.some (Go.Eng.AV.sc (Go.Eng.SV.int Go.IntKind.i64 (1 : Int))))] [(Option.some (Go.Eng.HE.mk Bool.false (Go.Eng.HB.rows (Go.Sa.B.iEvent l1))))]) (KL Go.Eng.Ex.normal [Option.none] [(Option.some (Go.Eng.HE.mk Bool.false (Go.Eng.HB.rows (Go.Sa.B.iEvent l1))))])) (funext fun n => ih n))
def i_spec_EventsFault_w_0 (N : Nat) {R : Type} (vs : List (Option AV)) (H : Hp E) (KL : Ex → List (Option AV) → Hp E → Option R) : Option R :=
  match vs, H with
  | [(Option.some (Go.Eng.AV.sc (Go.Eng.SV.slc 0 Option.none b1))), (Option.some (Go.Eng.AV.sc (Go.Eng.SV.int Go.IntKind.i64 n)))], [(Option.some (Go.Eng.HE.mk Bool.false (Go.Eng.HB.rows (Go.Sa.B.iEvent l1))))] => c_spec_EventsFault_w_0 N b1 l1 n (KL Go.Eng.Ex.ret [(Option.some (Go.Eng.AV.sc (Go.Eng.SV.int Go.IntKind.i64 (1 : Int))))] [(Option.some (Go.Eng.HE.mk Bool.false (Go.Eng.HB.rows (Go.Sa.B.iEvent l1))))]) (KL Go.Eng.Ex.normal [Option.none] [(Option.some (Go.Eng.HE.mk Bool.false (Go.Eng.HB.rows (Go.Sa.B.iEvent l1))))])
  | _, _ => none
noncomputable def IT_spec_EventsFault_w_0 (N : Nat) : Its E := addIt 0 (i_spec_EventsFault_w_0 N) (noIt)
theorem IT_spec_EventsFault_w_0_ok (N : Nat) : ItOk (IT_spec_EventsFault_w_0 N) 1 74 sl_spec_EventsFault_w (lsB Go.Proofs.Try.f171 [0]) :=
  addItB_ok (inner := []) ok (O_spec_EventsFault_w_ok N) (jn_ok _ _ _) (noIt_ok) rfl (by kernel_rfl) rfl fun vs H KL r h => by
    unfold i_spec_EventsFault_w_0 at h
    split at h
    · exact ⟨_, (le_spec_EventsFault_w_0 N _ _ KL N _).trans h⟩
    · cases h
def g_spec_EventsFault_w (N : Nat) {R : Type} (b : Bool) (l : List Go.Sa.Event) (k : Int → Option R) : Option R :=
  (cond (decide (((((List.length l) : Nat) : Int) > (200 : Int))))
  (k (1 : Int))
  (c_spec_EventsFault_w_0 N b l (0 : Int) (
    (k (1 : Int))) (
    (k (0 : Int)))))
theorem e_spec_EventsFault_w (N : Nat) {R : Type} (b : Bool) (l : List Go.Sa.Event) (K : AV → Hp E → Option R) :
    runFnI (E := E) (O_spec_EventsFault_w N) (IT_spec_EventsFault_w_0 N) sl_spec_EventsFault_w J_spec_EventsFault_w Go.Proofs.Try.f171 [(Go.Eng.AV.sc (Go.Eng.SV.slc 0 Option.none b))] [(Option.some (Go.Eng.HE.mk Bool.false (Go.Eng.HB.rows (Go.Sa.B.iEvent l))))] K =
      g_spec_EventsFault_w N b l (fun n1 => K (Go.Eng.AV.sc (Go.Eng.SV.int Go.IntKind.i64 n1)) [(Option.some (Go.Eng.HE.mk Bool.false (Go.Eng.HB.rows (Go.Sa.B.iEvent l))))]) := by kernel_rfl
def o_spec_EventsFault_w (N : Nat) {R : Type} (args : List AV) (H : Hp E) (K : AV → Hp E → Option R) : Option R :=
  match args, H with
  | [(Go.Eng.AV.sc (Go.Eng.SV.slc 0 Option.none b))], [(Option.some (Go.Eng.HE.mk Bool.false (Go.Eng.HB.rows (Go.Sa.B.iEvent l))))] => g_spec_EventsFault_w N b l (fun n1 => K (Go.Eng.AV.sc (Go.Eng.SV.int Go.IntKind.i64 n1)) [(Option.some (Go.Eng.HE.mk Bool.false (Go.Eng.HB.rows (Go.Sa.B.iEvent l))))])
  | _, _ => none
theorem o_spec_EventsFault_w_ok (N : Nat) : FnOk E 171 (o_spec_EventsFault_w N) := by
  intro R args H K r h
  unfold o_spec_EventsFault_w at h
  dsimp only at h
  split at h
  · exact fnB_ok (ids := [0]) (top := [0]) ok (O_spec_EventsFault_w_ok N) (jn_ok _ _ _) Go.Proofs.Try.func171 (by kernel_rfl) (IT := IT_spec_EventsFault_w_0 N) (sl := sl_spec_EventsFault_w) (J := J_spec_EventsFault_w) (K := K) (H := [(Option.some (Go.Eng.HE.mk Bool.false (Go.Eng.HB.rows (Go.Sa.B.iEvent _))))]) (IT_spec_EventsFault_w_0_ok N) (by kernel_rfl) rfl ((e_spec_EventsFault_w N _ _ K).trans h)
  · cases h
/-! ### loop.example/g00038/spec.l01Mod -/
abbrev sl_spec_l01Mod : SlotT := []
abbrev J_spec_l01Mod : JT := jn [] [(10, [(5, .i .i64)])] []
noncomputable def O_spec_l01Mod (N : Nat) : Orc E := noFn
theorem O_spec_l01Mod_ok (N : Nat) : OrcOk (O_spec_l01Mod N) := noFn_ok
def g_spec_l01Mod (N : Nat) {R : Type} (n : Int) (n1 : Int) (k : Int → Option R) : Option R :=
  (cond (n1 == (0 : Int))
  none
  (oK (cond (decide (((Int.tmod n n1) < (0 : Int))))
      (some (Go.IntKind.wrap Go.IntKind.i64 ((Int.tmod n n1) + n1)))
      (some (Int.tmod n n1))) fun j =>
    (k j)))
theorem e_spec_l01Mod (N : Nat) {R : Type} (n : Int) (n1 : Int) (K : AV → Hp E → Option R) :
    runFnI (E := E) (O_spec_l01Mod N) (noIt) sl_spec_l01Mod J_spec_l01Mod Go.Proofs.Try.f158 [(Go.Eng.AV.sc (Go.Eng.SV.int Go.IntKind.i64 n)), (Go.Eng.AV.sc (Go.Eng.SV.int Go.IntKind.i64 n1))] [] K =
      g_spec_l01Mod N n n1 (fun n2 => K (Go.Eng.AV.sc (Go.Eng.SV.int Go.IntKind.i64 n2)) []) := by kernel_rfl
def o_spec_l01Mod (N : Nat) {R : Type} (args : List AV) (H : Hp E) (K : AV → Hp E → Option R) : Option R :=
  match args, H with
  | [(Go.Eng.AV.sc (Go.Eng.SV.int Go.IntKind.i64 n)), (Go.Eng.AV.sc (Go.Eng.SV.int Go.IntKind.i64 n1))], [] => g_spec_l01Mod N n n1 (fun n2 => K (Go.Eng.AV.sc (Go.Eng.SV.int Go.IntKind.i64 n2)) [])
  | _, _ => none
theorem o_spec_l01Mod_ok (N : Nat) : FnOk E 158 (o_spec_l01Mod N) := by
  intro R args H K r h
  unfold o_spec_l01Mod at h
  dsimp only at h
  split at h
  · exact fnB_ok (ids := []) (top := []) ok (O_spec_l01Mod_ok N) (jn_ok _ _ _) Go.Proofs.Try.func158 (by kernel_rfl) (IT := noIt) (sl := sl_spec_l01Mod) (J := J_spec_l01Mod) (K := K) (H := []) (noIt_ok) (by kernel_rfl) rfl ((e_spec_l01Mod N _ _ K).trans h)
  · cases h
/-! ### loop.example/g00038/spec.Word -/
abbrev sl_spec_Word : SlotT := []
abbrev J_spec_Word : JT := jn [] [] []
noncomputable def O_spec_Word (N : Nat) : Orc E := addFn 158 (o_spec_l01Mod N) (noFn)
theorem O_spec_Word_ok (N : Nat) : OrcOk (O_spec_Word N) := addFn_ok (o_spec_l01Mod_ok N) (noFn_ok)
def g_spec_Word (N : Nat) {R : Type} (n : Int) (k : Int → Option R) : Option R :=
  (g_spec_l01Mod N n (4294967296 : Int) fun n1 =>
  (k n1))
theorem e_spec_Word (N : Nat) {R : Type} (n : Int) (K : AV → Hp E → Option R) :
    runFnI (E := E) (O_spec_Word N) (noIt) sl_spec_Word J_spec_Word Go.Proofs.Try.f93 [(Go.Eng.AV.sc (Go.Eng.SV.int Go.IntKind.i64 n))] [] K =
      g_spec_Word N n (fun n2 => K (Go.Eng.AV.sc (Go.Eng.SV.int Go.IntKind.i64 n2)) []) := by kernel_rfl
def o_spec_Word (N : Nat) {R : Type} (args : List AV) (H : Hp E) (K : AV → Hp E → Option R) : Option R :=
  match args, H with
  | [(Go.Eng.AV.sc (Go.Eng.SV.int Go.IntKind.i64 n))], [] => g_spec_Word N n (fun n2 => K (Go.Eng.AV.sc (Go.Eng.SV.int Go.IntKind.i64 n2)) [])
  | _, _ => none
theorem o_spec_Word_ok (N : Nat) : FnOk E 93 (o_spec_Word N) := by
  intro R args H K r h
  unfold o_spec_Word at h
  dsimp only at h
  split at h
  · exact fnB_ok (ids := []) (top := []) ok (O_spec_Word_ok N) (jn_ok _ _ _) Go.Proofs.Try.func93 (by kernel_rfl) (IT := noIt) (sl := sl_spec_Word) (J := J_spec_Word) (K := K) (H := []) (noIt_ok) (by kernel_rfl) rfl ((e_spec_Word N _ K).trans h)
  · cases h
/-! ### loop.example/g00038/spec.PutWord -/
abbrev sl_spec_PutWord : SlotT := []
abbrev J_spec_PutWord : JT := jn [] [] []
noncomputable def O_spec_PutWord (N : Nat) : Orc E := addFn 93 (o_spec_Word N) (noFn)
theorem O_spec_PutWord_ok (N : Nat) : OrcOk (O_spec_PutWord N) := addFn_ok (o_spec_Word_ok N) (noFn_ok)
def g_spec_PutWord (N : Nat) {R : Type} (n : Int) (k : ByteArray → Option R) : Option R :=
  (g_spec_Word N n fun n1 =>
  (k (Go.Eng.toBytes (Go.Eng.seg [(Go.IntKind.wrap Go.IntKind.u8 n1), (Go.IntKind.wrap Go.IntKind.u8 (Int.fdiv n1 (256 : Int))), (Go.IntKind.wrap Go.IntKind.u8 (Int.fdiv n1 (65536 : Int))), (Go.IntKind.wrap Go.IntKind.u8 (Int.fdiv n1 (16777216 : Int)))] 0 (List.length [(Go.IntKind.wrap Go.IntKind.u8 n1), (Go.IntKind.wrap Go.IntKind.u8 (Int.fdiv n1 (256 : Int))), (Go.IntKind.wrap Go.IntKind.u8 (Int.fdiv n1 (65536 : Int))), (Go.IntKind.wrap Go.IntKind.u8 (Int.fdiv n1 (16777216 : Int)))])))))
theorem e_spec_PutWord (N : Nat) {R : Type} (n : Int) (K : AV → Hp E → Option R) :
    runFnI (E := E) (O_spec_PutWord N) (noIt) sl_spec_PutWord J_spec_PutWord Go.Proofs.Try.f109 [(Go.Eng.AV.sc (Go.Eng.SV.int Go.IntKind.i64 n))] [] K =
      g_spec_PutWord N n (fun s => K (Go.Eng.AV.sc (Go.Eng.SV.str s)) []) := by kernel_rfl
def o_spec_PutWord (N : Nat) {R : Type} (args : List AV) (H : Hp E) (K : AV → Hp E → Option R) : Option R :=
  match args, H with
  | [(Go.Eng.AV.sc (Go.Eng.SV.int Go.IntKind.i64 n))], [] => g_spec_PutWord N n (fun s => K (Go.Eng.AV.sc (Go.Eng.SV.str s)) [])
  | _, _ => none
theorem o_spec_PutWord_ok (N : Nat) : FnOk E 109 (o_spec_PutWord N) := by
  intro R args H K r h
  unfold o_spec_PutWord at h
  dsimp only at h
  split at h
  · exact fnB_ok (ids := []) (top := []) ok (O_spec_PutWord_ok N) (jn_ok _ _ _) Go.Proofs.Try.func109 (by kernel_rfl) (IT := noIt) (sl := sl_spec_PutWord) (J := J_spec_PutWord) (K := K) (H := []) (noIt_ok) (by kernel_rfl) rfl ((e_spec_PutWord N _ K).trans h)
  · cases h
/-! ### loop.example/g00038/spec.l20Words -/
abbrev sl_spec_l20Words_w : SlotT := [(0, ([0, 3, 4], [3]))]
abbrev J_spec_l20Words_w : JT := jn [] [] []
noncomputable def O_spec_l20Words_w (N : Nat) : Orc E := addFn 109 (o_spec_PutWord N) (noFn)
theorem O_spec_l20Words_w_ok (N : Nat) : OrcOk (O_spec_l20Words_w N) := addFn_ok (o_spec_PutWord_ok N) (noFn_ok)
def s_spec_l20Words_w_0 (N : Nat) {R : Type} (b1 : Bool) (l1 : List Int) (s : ByteArray) (n : Int) (ag : ByteArray → Int → Option R)  (kN : ByteArray → Option R) : Option R :=
  (cond (decide ((n < (((List.length l1) : Nat) : Int))))
  (cond ((decide (((0 : Int) ≤ n))) && (decide ((n < (((List.length l1) : Nat) : Int)))))
    (elemK l1 (Int.toNat n) fun x =>
      (g_spec_PutWord N x fun s1 =>
      (cond (Nat.ble ((ByteArray.size s) + (ByteArray.size s1)) 9223372036854775807)
      (ag (s ++ s1) (Go.IntKind.wrap Go.IntKind.i64 (n + (1 : Int))))
      none)))
    none)
  (kN s))
def l_spec_l20Words_w_0 (N : Nat) {R : Type} (b1 : Bool) (l1 : List Int) (kN : ByteArray → Option R) : Nat → ByteArray → Int → Option R
  | 0, _, _ => none
  | f + 1, s, n => s_spec_l20Words_w_0 N b1 l1 s n (fun s n => l_spec_l20Words_w_0 N b1 l1 kN f s n)  kN
def c_spec_l20Words_w_0 (N : Nat) {R : Type} (b1 : Bool) (l1 : List Int) (s : ByteArray) (n : Int) (kN : ByteArray → Option R) : Option R := l_spec_l20Words_w_0 N b1 l1 kN N s n
theorem se_spec_l20Words_w_0 (N : Nat) {R : Type} (b1 : Bool) (l1 : List Int) (s : ByteArray) (n : Int) (AG : List (Option AV) → Hp E → Option R) (KL : Ex → List (Option AV) → Hp E → Option R) :
    iterStep (E := E) (O_spec_l20Words_w N) (fun {R} => LI (noIt) 1 19 sl_spec_l20Words_w (R := R)) J_spec_l20Words_w 1 19 0 [0, 3, 4] [3] (body Go.Proofs.Try.f115 0) AG KL [(Option.some (Go.Eng.AV.sc (Go.Eng.SV.slc 0 Option.none b1))), (Option.some (Go.Eng.AV.sc (Go.Eng.SV.str s))), (Option.some (Go.Eng.AV.sc (Go.Eng.SV.int Go.IntKind.i64 n)))] [(Option.some (Go.Eng.HE.mk Bool.false (Go.Eng.HB.rows (Go.Sa.B.i64 l1))))] =
      s_spec_l20Words_w_0 N b1 l1 s n (fun s n => AG [(Option.some (Go.Eng.AV.sc (Go.Eng.SV.slc 0 Option.none b1))), (Option.some (Go.Eng.AV.sc (Go.Eng.SV.str s))), (Option.some (Go.Eng.AV.sc (Go.Eng.SV.int Go.IntKind.i64 n)))] [(Option.some (Go.Eng.HE.mk Bool.false (Go.Eng.HB.rows (Go.Sa.B.i64 l1))))])  (fun s4 => KL Go.Eng.Ex.normal [(Option.some (Go.Eng.AV.sc (Go.Eng.SV.str s4)))] [(Option.some (Go.Eng.HE.mk Bool.false (Go.Eng.HB.rows (Go.Sa.B.i64 l1))))]) := by kernel_rfl
theorem le_spec_l20Words_w_0 (N : Nat) {R : Type} (b1 : Bool) (l1 : List Int) (KL : Ex → List (Option AV) → Hp E → Option R) : ∀ (f : Nat), ∀ (s : ByteArray) (n : Int), iterK (E := E) (O_spec_l20Words_w N) (fun {R} => LI (noIt) 1 19 sl_spec_l20Words_w (R := R)) J_spec_l20Words_w 1 19 0 [0, 3, 4] [3] (body Go.Proofs.Try.f115 0) f [(Option.some (Go.Eng.AV.sc (Go.Eng.SV.slc 0 Option.none b1))), (Option.some (Go.Eng.AV.sc (Go.Eng.SV.str s))), (Option.some (Go.Eng.AV.sc (Go.Eng.SV.int Go.IntKind.i64 n)))] [(Option.some (Go.Eng.HE.mk Bool.false (Go.Eng.HB.rows (Go.Sa.B.i64 l1))))] KL = l_spec_l20Words_w_0 N b1 l1 (fun s4 => KL Go.Eng.Ex.normal [(Option.some (Go.Eng.AV.sc (Go.Eng.SV.str s4)))] [(Option.some (Go.Eng.HE.mk Bool.false (Go.Eng.HB.rows (Go.Sa.B.i64 l1))))]) f s n := by
  intro f
  induction f with
  | zero => intros; rfl
  | succ f ih =>
    intro s n
    rw [iterK_succ, se_spec_l20Words_w_0]
    exact (congrArg (fun z0 => s_spec_l20Words_w_0 N b1 l1 s n z0 (fun s4 => KL Go.Eng.Ex.normal [(Option.some (Go.Eng.AV.sc (Go.Eng.SV.str s4)))] [(Option.some (Go.Eng.HE.mk Bool.false (Go.Eng.HB.rows (Go.Sa.B.i64 l1))))])) (funext fun s => funext fun n => ih s n))
def i_spec_l20Words_w_0 (N : Nat) {R : Type} (vs : List (Option AV)) (H : Hp E) (KL : Ex → List (Option AV) → Hp E → Option R) : Option R :=
  match vs, H with
  | [(Option.some (Go.Eng.AV.sc (Go.Eng.SV.slc 0 Option.none b1))), (Option.some (Go.Eng.AV.sc (Go.Eng.SV.str s))), (Option.some (Go.Eng.AV.sc (Go.Eng.SV.int Go.IntKind.i64 n)))], [(Option.some (Go.Eng.HE.mk Bool.false (Go.Eng.HB.rows (Go.Sa.B.i64 l1))))] => c_spec_l20Words_w_0 N b1 l1 s n (fun s5 => KL Go.Eng.Ex.normal [(Option.some (Go.Eng.AV.sc (Go.Eng.SV.str s5)))] [(Option.some (Go.Eng.HE.mk Bool.false (Go.Eng.HB.rows (Go.Sa.B.i64 l1))))])
  | _, _ => none
noncomputable def IT_spec_l20Words_w_0 (N : Nat) : Its E := addIt 0 (i_spec_l20Words_w_0 N) (noIt)
theorem IT_spec_l20Words_w_0_ok (N : Nat) : ItOk (IT_spec_l20Words_w_0 N) 1 19 sl_spec_l20Words_w (lsB Go.Proofs.Try.f115 [0]) :=
  addItB_ok (inner := []) ok (O_spec_l20Words_w_ok N) (jn_ok _ _ _) (noIt_ok) rfl (by kernel_rfl) rfl fun vs H KL r h => by
    unfold i_spec_l20Words_w_0 at h
    split at h
    · exact ⟨_, (le_spec_l20Words_w_0 N _ _ KL N _ _).trans h⟩
    · cases h
def g_spec_l20Words_w (N : Nat) {R : Type} (b : Bool) (l : List Int) (k : ByteArray → Option R) : Option R :=
  (c_spec_l20Words_w_0 N b l (ByteArray.mk (List.toArray [])) (0 : Int) fun s2 =>
  (k s2))
theorem e_spec_l20Words_w (N : Nat) {R : Type} (b : Bool) (l : List Int) (K : AV → Hp E → Option R) :
    runFnI (E := E) (O_spec_l20Words_w N) (IT_spec_l20Words_w_0 N) sl_spec_l20Words_w J_spec_l20Words_w Go.Proofs.Try.f115 [(Go.Eng.AV.sc (Go.Eng.SV.slc 0 Option.none b))] [(Option.some (Go.Eng.HE.mk Bool.false (Go.Eng.HB.rows (Go.Sa.B.i64 l))))] K =
      g_spec_l20Words_w N b l (fun s3 => K (Go.Eng.AV.sc (Go.Eng.SV.str s3)) [(Option.some (Go.Eng.HE.mk Bool.false (Go.Eng.HB.rows (Go.Sa.B.i64 l))))]) := by kernel_rfl
def o_spec_l20Words_w (N : Nat) {R : Type} (args : List AV) (H : Hp E) (K : AV → Hp E → Option R) : Option R :=
  match args, H with
  | [(Go.Eng.AV.sc (Go.Eng.SV.slc 0 Option.none b))], [(Option.some (Go.Eng.HE.mk Bool.false (Go.Eng.HB.rows (Go.Sa.B.i64 l))))] => g_spec_l20Words_w N b l (fun s3 => K (Go.Eng.AV.sc (Go.Eng.SV.str s3)) [(Option.some (Go.Eng.HE.mk Bool.false (Go.Eng.HB.rows (Go.Sa.B.i64 l))))])
  | _, _ => none
theorem o_spec_l20Words_w_ok (N : Nat) : FnOk E 115 (o_spec_l20Words_w N) := by
  intro R args H K r h
  unfold o_spec_l20Words_w at h
  dsimp only at h
  split at h
  · exact fnB_ok (ids := [0]) (top := [0]) ok (O_spec_l20Words_w_ok N) (jn_ok _ _ _) Go.Proofs.Try.func115 (by kernel_rfl) (IT := IT_spec_l20Words_w_0 N) (sl := sl_spec_l20Words_w) (J := J_spec_l20Words_w) (K := K) (H := [(Option.some (Go.Eng.HE.mk Bool.false (Go.Eng.HB.rows (Go.Sa.B.i64 _))))]) (IT_spec_l20Words_w_0_ok N) (by kernel_rfl) rfl ((e_spec_l20Words_w N _ _ K).trans h)
  · cases h
/-! ### loop.example/g00038/spec.PackEvents -/
abbrev sl_spec_PackEvents_w : SlotT := [(0, ([0, 3, 4], [3]))]
abbrev J_spec_PackEvents_w : JT := jn [] [] []
noncomputable def O_spec_PackEvents_w (N : Nat) : Orc E := addFn 115 (o_spec_l20Words_w N) (addFn 171 (o_spec_EventsFault_w N) (noFn))
theorem O_spec_PackEvents_w_ok (N : Nat) : OrcOk (O_spec_PackEvents_w N) := addFn_ok (o_spec_l20Words_w_ok N) (addFn_ok (o_spec_EventsFault_w_ok N) (noFn_ok))
def s_spec_PackEvents_w_0 (N : Nat) {R : Type} (b1 : Bool) (l1 : List Go.Sa.Event) (s : ByteArray) (n1 : Int) (ag : ByteArray → Int → Option R)  (kN : ByteArray → Option R) : Option R :=
  (cond (decide ((n1 < (((List.length l1) : Nat) : Int))))
  (cond ((decide (((0 : Int) ≤ n1))) && (decide ((n1 < (((List.length l1) : Nat) : Int)))))
    (elemK l1 (Int.toNat n1) fun x =>
      (g_spec_l20Words_w N Bool.false [(Go.Sa.Event.fAt x), (Int.fdiv (Go.Sa.Event.fAt x) (4294967296 : Int)), (Go.IntKind.wrap Go.IntKind.i64 ((Go.IntKind.wrap Go.IntKind.i64 ((Go.Sa.Event.fKind x) * (65536 : Int))) + (Go.Sa.Event.fNum x))), (Go.Sa.Event.fValue x)] fun s1 =>
      (cond (Nat.ble ((ByteArray.size s) + (ByteArray.size s1)) 9223372036854775807)
      (ag (s ++ s1) (Go.IntKind.wrap Go.IntKind.i64 (n1 + (1 : Int))))
      none)))
    none)
  (kN s))
def l_spec_PackEvents_w_0 (N : Nat) {R : Type} (b1 : Bool) (l1 : List Go.Sa.Event) (kN : ByteArray → Option R) : Nat → ByteArray → Int → Option R
  | 0, _, _ => none
  | f + 1, s, n1 => s_spec_PackEvents_w_0 N b1 l1 s n1 (fun s n1 => l_spec_PackEvents_w_0 N b1 l1 kN f s n1)  kN
def c_spec_PackEvents_w_0 (N : Nat) {R : Type} (b1 : Bool) (l1 : List Go.Sa.Event) (s : ByteArray) (n1 : Int) (kN : ByteArray → Option R) : Option R := l_spec_PackEvents_w_0 N b1 l1 kN N s n1
theorem se_spec_PackEvents_w_0 (N : Nat) {R : Type} (b1 : Bool) (l1 : List Go.Sa.Event) (s : ByteArray) (n1 : Int) (AG : List (Option AV) → Hp E → Option R) (KL : Ex → List (Option AV) → Hp E → Option R) :
    iterStep (E := E) (O_spec_PackEvents_w N) (fun {R} => LI (noIt) 1 37 sl_spec_PackEvents_w (R := R)) J_spec_PackEvents_w 1 37 0 [0, 3, 4] [3] (body Go.Proofs.Try.f125 0) AG KL [(Option.some (Go.Eng.AV.sc (Go.Eng.SV.slc 0 Option.none b1))), (Option.some (Go.Eng.AV.sc (Go.Eng.SV.str s))), (Option.some (Go.Eng.AV.sc (Go.Eng.SV.int Go.IntKind.i64 n1)))] [(Option.some (Go.Eng.HE.mk Bool.false (Go.Eng.HB.rows (Go.Sa.B.iEvent l1))))] =
      s_spec_PackEvents_w_0 N b1 l1 s n1 (fun s n1 => AG [(Option.some (Go.Eng.AV.sc (Go.Eng.SV.slc 0 Option.none b1))), (Option.some (Go.Eng.AV.sc (Go.Eng.SV.str s))), (Option.some (Go.Eng.AV.sc (Go.Eng.SV.int Go.IntKind.i64 n1)))] [(Option.some (Go.Eng.HE.mk Bool.false (Go.Eng.HB.rows (Go.Sa.B.iEvent l1))))])  (fun s4 => KL Go.Eng.Ex.normal [(Option.some (Go.Eng.AV.sc (Go.Eng.SV.str s4)))] [(Option.some (Go.Eng.HE.mk Bool.false (Go.Eng.HB.rows (Go.Sa.B.iEvent l1))))]) := by kernel_rfl
theorem le_spec_PackEvents_w_0 (N : Nat) {R : Type} (b1 : Bool) (l1 : List Go.Sa.Event) (KL : Ex → List (Option AV) → Hp E → Option R) : ∀ (f : Nat), ∀ (s : ByteArray) (n1 : Int), iterK (E := E) (O_spec_PackEvents_w N) (fun {R} => LI (noIt) 1 37 sl_spec_PackEvents_w (R := R)) J_spec_PackEvents_w 1 37 0 [0, 3, 4] [3] (body Go.Proofs.Try.f125 0) f [(Option.some (Go.Eng.AV.sc (Go.Eng.SV.slc 0 Option.none b1))), (Option.some (Go.Eng.AV.sc (Go.Eng.SV.str s))), (Option.some (Go.Eng.AV.sc (Go.Eng.SV.int Go.IntKind.i64 n1)))] [(Option.some (Go.Eng.HE.mk Bool.false (Go.Eng.HB.rows (Go.Sa.B.iEvent l1))))] KL = l_spec_PackEvents_w_0 N b1 l1 (fun s4 => KL Go.Eng.Ex.normal [(Option.some (Go.Eng.AV.sc (Go.Eng.SV.str s4)))] [(Option.some (Go.Eng.HE.mk Bool.false (Go.Eng.HB.rows (Go.Sa.B.iEvent l1))))]) f s n1 := by
  intro f
  induction f with
  | zero => intros; rfl
  | succ f ih =>
    intro s n1
    rw [iterK_succ, se_spec_PackEvents_w_0]
    exact (congrArg (fun z0 => s_spec_PackEvents_w_0 N b1 l1 s n1 z0 (fun s4 => KL Go.Eng.Ex.normal [(Option.some (Go.Eng.AV.sc (Go.Eng.SV.str s4)))] [(Option.some (Go.Eng.HE.mk Bool.false (Go.Eng.HB.rows (Go.Sa.B.iEvent l1))))])) (funext fun s => funext fun n1 => ih s n1))
def i_spec_PackEvents_w_0 (N : Nat) {R : Type} (vs : List (Option AV)) (H : Hp E) (KL : Ex → List (Option AV) → Hp E → Option R) : Option R :=
  match vs, H with
  | [(Option.some (Go.Eng.AV.sc (Go.Eng.SV.slc 0 Option.none b1))), (Option.some (Go.Eng.AV.sc (Go.Eng.SV.str s))), (Option.some (Go.Eng.AV.sc (Go.Eng.SV.int Go.IntKind.i64 n1)))], [(Option.some (Go.Eng.HE.mk Bool.false (Go.Eng.HB.rows (Go.Sa.B.iEvent l1))))] => c_spec_PackEvents_w_0 N b1 l1 s n1 (fun s5 => KL Go.Eng.Ex.normal [(Option.some (Go.Eng.AV.sc (Go.Eng.SV.str s5)))] [(Option.some (Go.Eng.HE.mk Bool.false (Go.Eng.HB.rows (Go.Sa.B.iEvent l1))))])
  | _, _ => none
noncomputable def IT_spec_PackEvents_w_0 (N : Nat) : Its E := addIt 0 (i_spec_PackEvents_w_0 N) (noIt)
theorem IT_spec_PackEvents_w_0_ok (N : Nat) : ItOk (IT_spec_PackEvents_w_0 N) 1 37 sl_spec_PackEvents_w (lsB Go.Proofs.Try.f125 [0]) :=
  addItB_ok (inner := []) ok (O_spec_PackEvents_w_ok N) (jn_ok _ _ _) (noIt_ok) rfl (by kernel_rfl) rfl fun vs H KL r h => by
    unfold i_spec_PackEvents_w_0 at h
    split at h
    · exact ⟨_, (le_spec_PackEvents_w_0 N _ _ KL N _ _).trans h⟩
    · cases h
def g_spec_PackEvents_w (N : Nat) {R : Type} (b : Bool) (l : List Go.Sa.Event) (k : ByteArray → Option R) : Option R :=
  (g_spec_EventsFault_w N b l fun n =>
  (cond (n != (0 : Int))
  (k (ByteArray.mk (List.toArray [])))
  (c_spec_PackEvents_w_0 N b l (ByteArray.mk (List.toArray [(86 : UInt8), (69 : UInt8), (49 : UInt8), (10 : UInt8)])) (0 : Int) fun s2 =>
    (k s2))))
theorem e_spec_PackEvents_w (N : Nat) {R : Type} (b : Bool) (l : List Go.Sa.Event) (K : AV → Hp E → Option R) :
    runFnI (E := E) (O_spec_PackEvents_w N) (IT_spec_PackEvents_w_0 N) sl_spec_PackEvents_w J_spec_PackEvents_w Go.Proofs.Try.f125 [(Go.Eng.AV.sc (Go.Eng.SV.slc 0 Option.none b))] [(Option.some (Go.Eng.HE.mk Bool.false (Go.Eng.HB.rows (Go.Sa.B.iEvent l))))] K =
      g_spec_PackEvents_w N b l (fun s3 => K (Go.Eng.AV.sc (Go.Eng.SV.str s3)) [(Option.some (Go.Eng.HE.mk Bool.false (Go.Eng.HB.rows (Go.Sa.B.iEvent l))))]) := by kernel_rfl
def o_spec_PackEvents_w (N : Nat) {R : Type} (args : List AV) (H : Hp E) (K : AV → Hp E → Option R) : Option R :=
  match args, H with
  | [(Go.Eng.AV.sc (Go.Eng.SV.slc 0 Option.none b))], [(Option.some (Go.Eng.HE.mk Bool.false (Go.Eng.HB.rows (Go.Sa.B.iEvent l))))] => g_spec_PackEvents_w N b l (fun s3 => K (Go.Eng.AV.sc (Go.Eng.SV.str s3)) [(Option.some (Go.Eng.HE.mk Bool.false (Go.Eng.HB.rows (Go.Sa.B.iEvent l))))])
  | _, _ => none
theorem o_spec_PackEvents_w_ok (N : Nat) : FnOk E 125 (o_spec_PackEvents_w N) := by
  intro R args H K r h
  unfold o_spec_PackEvents_w at h
  dsimp only at h
  split at h
  · exact fnB_ok (ids := [0]) (top := [0]) ok (O_spec_PackEvents_w_ok N) (jn_ok _ _ _) Go.Proofs.Try.func125 (by kernel_rfl) (IT := IT_spec_PackEvents_w_0 N) (sl := sl_spec_PackEvents_w) (J := J_spec_PackEvents_w) (K := K) (H := [(Option.some (Go.Eng.HE.mk Bool.false (Go.Eng.HB.rows (Go.Sa.B.iEvent _))))]) (IT_spec_PackEvents_w_0_ok N) (by kernel_rfl) rfl ((e_spec_PackEvents_w N _ _ K).trans h)
  · cases h
/-! ### loop.example/g00038/spec.UnpackEvents -/
abbrev sl_spec_UnpackEvents : SlotT := [(0, ([0, 3, 4], [0, 3]))]
abbrev J_spec_UnpackEvents : JT := jn [(2, [(14, .b)]), (5, [(32, .b)])] [] [(7, [22])]
noncomputable def O_spec_UnpackEvents (N : Nat) : Orc E := addFn 125 (o_spec_PackEvents_w N) (addFn 124 (o_spec_l13Cut_words_W N) (noFn))
theorem O_spec_UnpackEvents_ok (N : Nat) : OrcOk (O_spec_UnpackEvents N) := addFn_ok (o_spec_PackEvents_w_ok N) (addFn_ok (o_spec_l13Cut_words_W_ok N) (noFn_ok))
def s_spec_UnpackEvents_0 (N : Nat) {R : Type} (s1 : ByteArray) (s2 : ByteArray) (b : Bool) (l : List Go.Sa.Event) (n : Int) (b1 : Bool) (ag : Bool → (List Go.Sa.Event) → Int → Bool → Option R)  (kN : Bool → (List Go.Sa.Event) → Option R) : Option R :=
  (oK (cond (decide ((n < (((ByteArray.size s1) : Nat) : Int))))
    (some (!b1))
    (some Bool.false)) fun j1 =>
  (cond j1
  (g_spec_l13Cut_words_W N (4 : Int) s2 n b1 fun b2 n1 b3 l1 =>
    (cond (decide (((0 : Int) < (((List.length l1) : Nat) : Int))))
    (elemK l1 0 fun x =>
      (cond (decide (((1 : Int) < (((List.length l1) : Nat) : Int))))
      (elemK l1 1 fun x1 =>
        (cond (decide (((2 : Int) < (((List.length l1) : Nat) : Int))))
        (elemK l1 2 fun x2 =>
          (cond (decide (((2 : Int) < (((List.length l1) : Nat) : Int))))
          (elemK l1 2 fun x3 =>
            (cond (decide (((3 : Int) < (((List.length l1) : Nat) : Int))))
            (elemK l1 3 fun x4 =>
              (cond (Go.Eng.roomOk ((List.length l) + (List.length [(Go.Sa.Event.mk (Go.IntKind.wrap Go.IntKind.i64 (x + (Go.IntKind.wrap Go.IntKind.i64 (x1 * (4294967296 : Int))))) (Go.IntKind.wrap Go.IntKind.i64 (Int.tdiv x2 (65536 : Int))) (Int.tmod x3 (65536 : Int)) x4)])) 32)
              (ag (cond (Nat.beq (List.length [(Go.Sa.Event.mk (Go.IntKind.wrap Go.IntKind.i64 (x + (Go.IntKind.wrap Go.IntKind.i64 (x1 * (4294967296 : Int))))) (Go.IntKind.wrap Go.IntKind.i64 (Int.tdiv x2 (65536 : Int))) (Int.tmod x3 (65536 : Int)) x4)]) 0) b Bool.false) (l ++ [(Go.Sa.Event.mk (Go.IntKind.wrap Go.IntKind.i64 (x + (Go.IntKind.wrap Go.IntKind.i64 (x1 * (4294967296 : Int))))) (Go.IntKind.wrap Go.IntKind.i64 (Int.tdiv x2 (65536 : Int))) (Int.tmod x3 (65536 : Int)) x4)]) n1 b3)
              none))
            none))
          none))
        none))
      none))
    none))
  (kN b l)))
def l_spec_UnpackEvents_0 (N : Nat) {R : Type} (s1 : ByteArray) (s2 : ByteArray) (kN : Bool → (List Go.Sa.Event) → Option R) : Nat → Bool → (List Go.Sa.Event) → Int → Bool → Option R
  | 0, _, _, _, _ => none
  | f + 1, b, l, n, b1 => s_spec_UnpackEvents_0 N s1 s2 b l n b1 (fun b l n b1 => l_spec_UnpackEvents_0 N s1 s2 kN f b l n b1)  kN
def c_spec_UnpackEvents_0 (N : Nat) {R : Type} (s1 : ByteArray) (s2 : ByteArray) (b : Bool) (l : List Go.Sa.Event) (n : Int) (b1 : Bool) (kN : Bool → (List Go.Sa.Event) → Option R) : Option R := l_spec_UnpackEvents_0 N s1 s2 kN N b l n b1
theorem se_spec_UnpackEvents_0 (N : Nat) {R : Type} (s1 : ByteArray) (s2 : ByteArray) (b : Bool) (l : List Go.Sa.Event) (n : Int) (b1 : Bool) (AG : List (Option AV) → Hp E → Option R) (KL : Ex → List (Option AV) → Hp E → Option R) :
    iterStep (E := E) (O_spec_UnpackEvents N) (fun {R} => LI (noIt) 0 64 sl_spec_UnpackEvents (R := R)) J_spec_UnpackEvents 0 64 0 [0, 3, 4] [0, 3] (body Go.Proofs.Try.f49 0) AG KL [(Option.some (Go.Eng.AV.sc (Go.Eng.SV.str s1))), (Option.some (Go.Eng.AV.sc (Go.Eng.SV.slc 0 Option.none b))), (Option.some (Go.Eng.AV.sc (Go.Eng.SV.ptr 1 0 0)))] [(Option.some (Go.Eng.HE.mk Bool.false (Go.Eng.HB.rows (Go.Sa.B.iEvent l)))), (Option.some (Go.Eng.HE.mk Bool.false (Go.Eng.HB.exp Option.none [(Go.Eng.SV.str s2), (Go.Eng.SV.int Go.IntKind.i64 n), (Go.Eng.SV.bool b1)])))] =
      s_spec_UnpackEvents_0 N s1 s2 b l n b1 (fun b l n b1 => AG [(Option.some (Go.Eng.AV.sc (Go.Eng.SV.str s1))), (Option.some (Go.Eng.AV.sc (Go.Eng.SV.slc 0 Option.none b))), (Option.some (Go.Eng.AV.sc (Go.Eng.SV.ptr 1 0 0)))] [(Option.some (Go.Eng.HE.mk Bool.false (Go.Eng.HB.rows (Go.Sa.B.iEvent l)))), (Option.some (Go.Eng.HE.mk Bool.false (Go.Eng.HB.exp Option.none [(Go.Eng.SV.str s2), (Go.Eng.SV.int Go.IntKind.i64 n), (Go.Eng.SV.bool b1)])))])  (fun b6 l4 => KL Go.Eng.Ex.normal [(Option.some (Go.Eng.AV.sc (Go.Eng.SV.str s1))), (Option.some (Go.Eng.AV.sc (Go.Eng.SV.slc 0 Option.none b6)))] [(Option.some (Go.Eng.HE.mk Bool.false (Go.Eng.HB.rows (Go.Sa.B.iEvent l4))))]) := by kernel_rfl
theorem le_spec_UnpackEvents_0 (N : Nat) {R : Type} (s1 : ByteArray) (s2 : ByteArray) (KL : Ex → List (Option AV) → Hp E → Option R) : ∀ (f : Nat), ∀ (b : Bool) (l : List Go.Sa.Event) (n : Int) (b1 : Bool), iterK (E := E) (O_spec_UnpackEvents N) (fun {R} => LI (noIt) 0 64 sl_spec_UnpackEvents (R := R)) J_spec_UnpackEvents 0 64 0 [0, 3, 4] [0, 3] (body Go.Proofs.Try.f49 0) f [(Option.some (Go.Eng.AV.sc (Go.Eng.SV.str s1))), (Option.some (Go.Eng.AV.sc (Go.Eng.SV.slc 0 Option.none b))), (Option.some (Go.Eng.AV.sc (Go.Eng.SV.ptr 1 0 0)))] [(Option.some (Go.Eng.HE.mk Bool.false (Go.Eng.HB.rows (Go.Sa.B.iEvent l)))), (Option.some (Go.Eng.HE.mk Bool.false (Go.Eng.HB.exp Option.none [(Go.Eng.SV.str s2), (Go.Eng.SV.int Go.IntKind.i64 n), (Go.Eng.SV.bool b1)])))] KL = l_spec_UnpackEvents_0 N s1 s2 (fun b6 l4 => KL Go.Eng.Ex.normal [(Option.some (Go.Eng.AV.sc (Go.Eng.SV.str s1))), (Option.some (Go.Eng.AV.sc (Go.Eng.SV.slc 0 Option.none b6)))] [(Option.some (Go.Eng.HE.mk Bool.false (Go.Eng.HB.rows (Go.Sa.B.iEvent l4))))]) f b l n b1 := by
  intro f
  induction f with
  | zero => intros; rfl
  | succ f ih =>
    intro b l n b1
    rw [iterK_succ, se_spec_UnpackEvents_0]
    exact (congrArg (fun z0 => s_spec_UnpackEvents_0 N s1 s2 b l n b1 z0 (fun b6 l4 => KL Go.Eng.Ex.normal [(Option.some (Go.Eng.AV.sc (Go.Eng.SV.str s1))), (Option.some (Go.Eng.AV.sc (Go.Eng.SV.slc 0 Option.none b6)))] [(Option.some (Go.Eng.HE.mk Bool.false (Go.Eng.HB.rows (Go.Sa.B.iEvent l4))))])) (funext fun b => funext fun l => funext fun n => funext fun b1 => ih b l n b1))
def i_spec_UnpackEvents_0 (N : Nat) {R : Type} (vs : List (Option AV)) (H : Hp E) (KL : Ex → List (Option AV) → Hp E → Option R) : Option R :=
  match vs, H with
  | [(Option.some (Go.Eng.AV.sc (Go.Eng.SV.str s1))), (Option.some (Go.Eng.AV.sc (Go.Eng.SV.slc 0 Option.none b))), (Option.some (Go.Eng.AV.sc (Go.Eng.SV.ptr 1 0 0)))], [(Option.some (Go.Eng.HE.mk Bool.false (Go.Eng.HB.rows (Go.Sa.B.iEvent l)))), (Option.some (Go.Eng.HE.mk Bool.false (Go.Eng.HB.exp Option.none [(Go.Eng.SV.str s2), (Go.Eng.SV.int Go.IntKind.i64 n), (Go.Eng.SV.bool b1)])))] => c_spec_UnpackEvents_0 N s1 s2 b l n b1 (fun b7 l5 => KL Go.Eng.Ex.normal [(Option.some (Go.Eng.AV.sc (Go.Eng.SV.str s1))), (Option.some (Go.Eng.AV.sc (Go.Eng.SV.slc 0 Option.none b7)))] [(Option.some (Go.Eng.HE.mk Bool.false (Go.Eng.HB.rows (Go.Sa.B.iEvent l5))))])
  | _, _ => none
noncomputable def IT_spec_UnpackEvents_0 (N : Nat) : Its E := addIt 0 (i_spec_UnpackEvents_0 N) (noIt)
theorem IT_spec_UnpackEvents_0_ok (N : Nat) : ItOk (IT_spec_UnpackEvents_0 N) 0 64 sl_spec_UnpackEvents (lsB Go.Proofs.Try.f49 [0]) :=
  addItB_ok (inner := []) ok (O_spec_UnpackEvents_ok N) (jn_ok _ _ _) (noIt_ok) rfl (by kernel_rfl) rfl fun vs H KL r h => by
    unfold i_spec_UnpackEvents_0 at h
    split at h
    · exact ⟨_, (le_spec_UnpackEvents_0 N _ _ KL N _ _ _ _).trans h⟩
    · cases h
def g_spec_UnpackEvents (N : Nat) {R : Type} (s : ByteArray) (k : Bool → (List Go.Sa.Event) → Option R) : Option R :=
  (oK (cond (decide (((((ByteArray.size s) : Nat) : Int) > (65536 : Int))))
    (some Bool.true)
    (some (decide (((((ByteArray.size s) : Nat) : Int) < (4 : Int)))))) fun j =>
  (cond j
  (k Bool.false [])
  (c_spec_UnpackEvents_0 N s s Bool.false [] (4 : Int) Bool.false fun b4 l2 =>
    (g_spec_PackEvents_w N b4 l2 fun s3 =>
    (cond (!(decide ((s3 = s))))
    (k Bool.false [])
    (k b4 l2))))))
theorem e_spec_UnpackEvents (N : Nat) {R : Type} (s : ByteArray) (K : AV → Hp E → Option R) :
    runFnI (E := E) (O_spec_UnpackEvents N) (IT_spec_UnpackEvents_0 N) sl_spec_UnpackEvents J_spec_UnpackEvents Go.Proofs.Try.f49 [(Go.Eng.AV.sc (Go.Eng.SV.str s))] [] K =
      g_spec_UnpackEvents N s (fun b5 l3 => K (Go.Eng.AV.sc (Go.Eng.SV.slc 0 Option.none b5)) [(Option.some (Go.Eng.HE.mk Bool.false (Go.Eng.HB.rows (Go.Sa.B.iEvent l3))))]) := by kernel_rfl
def o_spec_UnpackEvents (N : Nat) {R : Type} (args : List AV) (H : Hp E) (K : AV → Hp E → Option R) : Option R :=
  match args, H with
  | [(Go.Eng.AV.sc (Go.Eng.SV.str s))], [] => g_spec_UnpackEvents N s (fun b5 l3 => K (Go.Eng.AV.sc (Go.Eng.SV.slc 0 Option.none b5)) [(Option.some (Go.Eng.HE.mk Bool.false (Go.Eng.HB.rows (Go.Sa.B.iEvent l3))))])
  | _, _ => none
theorem o_spec_UnpackEvents_ok (N : Nat) : FnOk E 49 (o_spec_UnpackEvents N) := by
  intro R args H K r h
  unfold o_spec_UnpackEvents at h
  dsimp only at h
  split at h
  · exact fnB_ok (ids := [0]) (top := [0]) ok (O_spec_UnpackEvents_ok N) (jn_ok _ _ _) Go.Proofs.Try.func49 (by kernel_rfl) (IT := IT_spec_UnpackEvents_0 N) (sl := sl_spec_UnpackEvents) (J := J_spec_UnpackEvents) (K := K) (H := []) (IT_spec_UnpackEvents_0_ok N) (by kernel_rfl) rfl ((e_spec_UnpackEvents N _ K).trans h)
  · cases h
/-! ### loop.example/g00038/impl.ybig -/
abbrev sl_impl_ybig_w : SlotT := [(0, ([5, 6, 7], [2]))]
abbrev J_impl_ybig_w : JT := jn [] [] []
noncomputable def O_impl_ybig_w (N : Nat) : Orc E := noFn
theorem O_impl_ybig_w_ok (N : Nat) : OrcOk (O_impl_ybig_w N) := noFn_ok
def s_impl_ybig_w_0 (N : Nat) {R : Type} (b1 : Bool) (n : Int) (l1 : List ByteArray) (n1 : Int) (ag : Int → Option R)  (kR : Option R) (kN : Option R) : Option R :=
  (cond (decide ((n1 < n)))
  (cond ((decide (((0 : Int) ≤ n1))) && (decide ((n1 < (((List.length l1) : Nat) : Int)))))
    (elemK l1 (Int.toNat n1) fun x =>
      (cond (decide (((((ByteArray.size x) : Nat) : Int) > (65536 : Int))))
      kR
      (ag (Go.IntKind.wrap Go.IntKind.i64 (n1 + (1 : Int))))))
    none)
  kN)
def l_impl_ybig_w_0 (N : Nat) {R : Type} (b1 : Bool) (n : Int) (l1 : List ByteArray) (kR : Option R) (kN : Option R) : Nat → Int → Option R
  | 0, _ => none
  | f + 1, n1 => s_impl_ybig_w_0 N b1 n l1 n1 (fun n1 => l_impl_ybig_w_0 N b1 n l1 kR kN f n1)  kR kN
def c_impl_ybig_w_0 (N : Nat) {R : Type} (b1 : Bool) (n : Int) (l1 : List ByteArray) (n1 : Int) (kR : Option R) (kN : Option R) : Option R := l_impl_ybig_w_0 N b1 n l1 kR kN N n1
theorem se_impl_ybig_w_0 (N : Nat) {R : Type} (b1 : Bool) (n : Int) (l1 : List ByteArray) (n1 : Int) (AG : List (Option AV) → Hp E → Option R) (KL : Ex → List (Option AV) → Hp E → Option R) :
    iterStep (E := E) (O_impl_ybig_w N) (fun {R} => LI (noIt) 1 15 sl_impl_ybig_w (R := R)) J_impl_ybig_w 1 15 0 [5, 6, 7] [2] (body Go.Proofs.Try.f76 0) AG KL [(Option.some (Go.Eng.AV.sc (Go.Eng.SV.slc 0 Option.none b1))), (Option.some (Go.Eng.AV.sc (Go.Eng.SV.int Go.IntKind.i64 n))), (Option.some (Go.Eng.AV.sc (Go.Eng.SV.int Go.IntKind.i64 n1)))] [(Option.some (Go.Eng.HE.mk Bool.false (Go.Eng.HB.rows (Go.Sa.B.str l1))))] =
      s_impl_ybig_w_0 N b1 n l1 n1 (fun n1 => AG [(Option.some (Go.Eng.AV.sc (Go.Eng.SV.slc 0 Option.none b1))), (Option.some (Go.Eng.AV.sc (Go.Eng.SV.int Go.IntKind.i64 n))), (Option.some (Go.Eng.AV.sc (Go.Eng.SV.int Go.IntKind.i64 n1)))] [(Option.some (Go.Eng.HE.mk Bool.false (Go.Eng.HB.rows (Go.Sa.B.str l1))))])  (KL Go.Eng.Ex.ret [(Option.some (Go.Eng.AV.sc (Go.Eng.SV.bool Bool.true)))] [(Option.some (Go.Eng.HE.mk Bool.false (Go.Eng.HB.rows (Go.Sa.B.str l1))))]) (KL Go.Eng.Ex.normal [Option.none] [(Option.some (Go.Eng.HE.mk Bool.false (Go.Eng.HB.rows (Go.Sa.B.str l1))))]) := by kernel_rfl
theorem le_impl_ybig_w_0 (N : Nat) {R : Type} (b1 : Bool) (n : Int) (l1 : List ByteArray) (KL : Ex → List (Option AV) → Hp E → Option R) : ∀ (f : Nat), ∀ (n1 : Int), iterK (E := E) (O_impl_ybig_w N) (fun {R} => LI (noIt) 1 15 sl_impl_ybig_w (R := R)) J_impl_ybig_w 1 15 0 [5, 6, 7] [2] (body Go.Proofs.Try.f76 0) f [(Option.some (Go.Eng.AV.sc (Go.Eng.SV.slc 0 Option.none b1))), (Option.some (Go.Eng.AV.sc (Go.Eng.SV.int Go.IntKind.i64 n))), (Option.some (Go.Eng.AV.sc (Go.Eng.SV.int Go.IntKind.i64 n1)))] [(Option.some (Go.Eng.HE.mk Bool.false (Go.Eng.HB.rows (Go.Sa.B.str l1))))] KL = l_impl_ybig_w_0 N b1 n l1 (KL Go.Eng.Ex.ret [(Option.some (Go.Eng.AV.sc (Go.Eng.SV.bool Bool.true)))] [(Option.some (Go.Eng.HE.mk Bool.false (Go.Eng.HB.rows (Go.Sa.B.str l1))))]) (KL Go.Eng.Ex.normal [Option.none] [(Option.some (Go.Eng.HE.mk Bool.false (Go.Eng.HB.rows (Go.Sa.B.str l1))))]) f n1 := by
  intro f
  induction f with
  | zero => intros; rfl
  | succ f ih =>
    intro n1
    rw [iterK_succ, se_impl_ybig_w_0]
    exact (congrArg (fun z0 => s_impl_ybig_w_0 N b1 n l1 n1 z0 (KL Go.Eng.Ex.ret [(Option.some (Go.Eng.AV.sc (Go.Eng.SV.bool Bool.true)))] [(Option.some (Go.Eng.HE.mk Bool.false (Go.Eng.HB.rows (Go.Sa.B.str l1))))]) (KL Go.Eng.Ex.normal [Option.none] [(Option.some (Go.Eng.HE.mk Bool.false (Go.Eng.HB.rows (Go.Sa.B.str l1))))])) (funext fun n1 => ih n1))
def i_impl_ybig_w_0 (N : Nat) {R : Type} (vs : List (Option AV)) (H : Hp E) (KL : Ex → List (Option AV) → Hp E → Option R) : Option R :=
  match vs, H with
  | [(Option.some (Go.Eng.AV.sc (Go.Eng.SV.slc 0 Option.none b1))), (Option.some (Go.Eng.AV.sc (Go.Eng.SV.int Go.IntKind.i64 n))), (Option.some (Go.Eng.AV.sc (Go.Eng.SV.int Go.IntKind.i64 n1)))], [(Option.some (Go.Eng.HE.mk Bool.false (Go.Eng.HB.rows (Go.Sa.B.str l1))))] => c_impl_ybig_w_0 N b1 n l1 n1 (KL Go.Eng.Ex.ret [(Option.some (Go.Eng.AV.sc (Go.Eng.SV.bool Bool.true)))] [(Option.some (Go.Eng.HE.mk Bool.false (Go.Eng.HB.rows (Go.Sa.B.str l1))))]) (KL Go.Eng.Ex.normal [Option.none] [(Option.some (Go.Eng.HE.mk Bool.false (Go.Eng.HB.rows (Go.Sa.B.str l1))))])
  | _, _ => none
noncomputable def IT_impl_ybig_w_0 (N : Nat) : Its E := addIt 0 (i_impl_ybig_w_0 N) (noIt)
theorem IT_impl_ybig_w_0_ok (N : Nat) : ItOk (IT_impl_ybig_w_0 N) 1 15 sl_impl_ybig_w (lsB Go.Proofs.Try.f76 [0]) :=
  addItB_ok (inner := []) ok (O_impl_ybig_w_ok N) (jn_ok _ _ _) (noIt_ok) rfl (by kernel_rfl) rfl fun vs H KL r h => by
    unfold i_impl_ybig_w_0 at h
    split at h
    · exact ⟨_, (le_impl_ybig_w_0 N _ _ _ KL N _).trans h⟩
    · cases h
def g_impl_ybig_w (N : Nat) {R : Type} (b : Bool) (l : List ByteArray) (k : Bool → Option R) : Option R :=
  (c_impl_ybig_w_0 N b (((List.length l) : Nat) : Int) l (0 : Int) (
  (k Bool.true)) (
  (k Bool.false)))
theorem e_impl_ybig_w (N : Nat) {R : Type} (b : Bool) (l : List ByteArray) (K : AV → Hp E → Option R) :
    runFnI (E := E) (O_impl_ybig_w N) (IT_impl_ybig_w_0 N) sl_impl_ybig_w J_impl_ybig_w Go.Proofs.Try.f76 [(Go.Eng.AV.sc (Go.Eng.SV.slc 0 Option.none b))] [(Option.some (Go.Eng.HE.mk Bool.false (Go.Eng.HB.rows (Go.Sa.B.str l))))] K =
      g_impl_ybig_w N b l (fun b2 => K (Go.Eng.AV.sc (Go.Eng.SV.bool b2)) [(Option.some (Go.Eng.HE.mk Bool.false (Go.Eng.HB.rows (Go.Sa.B.str l))))]) := by kernel_rfl
def o_impl_ybig_w (N : Nat) {R : Type} (args : List AV) (H : Hp E) (K : AV → Hp E → Option R) : Option R :=
  match args, H with
  | [(Go.Eng.AV.sc (Go.Eng.SV.slc 0 Option.none b))], [(Option.some (Go.Eng.HE.mk Bool.false (Go.Eng.HB.rows (Go.Sa.B.str l))))] => g_impl_ybig_w N b l (fun b2 => K (Go.Eng.AV.sc (Go.Eng.SV.bool b2)) [(Option.some (Go.Eng.HE.mk Bool.false (Go.Eng.HB.rows (Go.Sa.B.str l))))])
  | _, _ => none
theorem o_impl_ybig_w_ok (N : Nat) : FnOk E 76 (o_impl_ybig_w N) := by
  intro R args H K r h
  unfold o_impl_ybig_w at h
  dsimp only at h
  split at h
  · exact fnB_ok (ids := [0]) (top := [0]) ok (O_impl_ybig_w_ok N) (jn_ok _ _ _) Go.Proofs.Try.func76 (by kernel_rfl) (IT := IT_impl_ybig_w_0 N) (sl := sl_impl_ybig_w) (J := J_impl_ybig_w) (K := K) (H := [(Option.some (Go.Eng.HE.mk Bool.false (Go.Eng.HB.rows (Go.Sa.B.str _))))]) (IT_impl_ybig_w_0_ok N) (by kernel_rfl) rfl ((e_impl_ybig_w N _ _ K).trans h)
  · cases h
/-! ### internal/stringslite.HasPrefix -/
abbrev sl_internal_stringslite_HasPrefix : SlotT := []
abbrev J_internal_stringslite_HasPrefix : JT := jn [(1, [(4, .b)])] [] []
noncomputable def O_internal_stringslite_HasPrefix (N : Nat) : Orc E := noFn
theorem O_internal_stringslite_HasPrefix_ok (N : Nat) : OrcOk (O_internal_stringslite_HasPrefix N) := noFn_ok
def g_internal_stringslite_HasPrefix (N : Nat) {R : Type} (s : ByteArray) (s1 : ByteArray) (k : Bool → Option R) : Option R :=
  (oK (cond (decide (((((ByteArray.size s) : Nat) : Int) ≥ (((ByteArray.size s1) : Nat) : Int))))
    (cond (decide (((((ByteArray.size s1) : Nat) : Int) ≤ (((ByteArray.size s) : Nat) : Int))))
      (some (decide (((ByteArray.extract s 0 (Int.toNat (((ByteArray.size s1) : Nat) : Int))) = s1))))
      none)
    (some Bool.false)) fun j =>
  (k j))
theorem e_internal_stringslite_HasPrefix (N : Nat) {R : Type} (s : ByteArray) (s1 : ByteArray) (K : AV → Hp E → Option R) :
    runFnI (E := E) (O_internal_stringslite_HasPrefix N) (noIt) sl_internal_stringslite_HasPrefix J_internal_stringslite_HasPrefix Go.Proofs.Try.f172 [(Go.Eng.AV.sc (Go.Eng.SV.str s)), (Go.Eng.AV.sc (Go.Eng.SV.str s1))] [] K =
      g_internal_stringslite_HasPrefix N s s1 (fun b => K (Go.Eng.AV.sc (Go.Eng.SV.bool b)) []) := by kernel_rfl
def o_internal_stringslite_HasPrefix (N : Nat) {R : Type} (args : List AV) (H : Hp E) (K : AV → Hp E → Option R) : Option R :=
  match args, H with
  | [(Go.Eng.AV.sc (Go.Eng.SV.str s)), (Go.Eng.AV.sc (Go.Eng.SV.str s1))], [] => g_internal_stringslite_HasPrefix N s s1 (fun b => K (Go.Eng.AV.sc (Go.Eng.SV.bool b)) [])
  | _, _ => none
theorem o_internal_stringslite_HasPrefix_ok (N : Nat) : FnOk E 172 (o_internal_stringslite_HasPrefix N) := by
  intro R args H K r h
  unfold o_internal_stringslite_HasPrefix at h
  dsimp only at h
  split at h
  · exact fnB_ok (ids := []) (top := []) ok (O_internal_stringslite_HasPrefix_ok N) (jn_ok _ _ _) Go.Proofs.Try.func172 (by kernel_rfl) (IT := noIt) (sl := sl_internal_stringslite_HasPrefix) (J := J_internal_stringslite_HasPrefix) (K := K) (H := []) (noIt_ok) (by kernel_rfl) rfl ((e_internal_stringslite_HasPrefix N _ _ K).trans h)
  · cases h
/-! ### strings.HasPrefix -/
abbrev sl_strings_HasPrefix : SlotT := []
abbrev J_strings_HasPrefix : JT := jn [] [] []
noncomputable def O_strings_HasPrefix (N : Nat) : Orc E := addFn 172 (o_internal_stringslite_HasPrefix N) (noFn)
theorem O_strings_HasPrefix_ok (N : Nat) : OrcOk (O_strings_HasPrefix N) := addFn_ok (o_internal_stringslite_HasPrefix_ok N) (noFn_ok)
def g_strings_HasPrefix (N : Nat) {R : Type} (s : ByteArray) (s1 : ByteArray) (k : Bool → Option R) : Option R :=
  (g_internal_stringslite_HasPrefix N s s1 fun b =>
  (k b))
theorem e_strings_HasPrefix (N : Nat) {R : Type} (s : ByteArray) (s1 : ByteArray) (K : AV → Hp E → Option R) :
    runFnI (E := E) (O_strings_HasPrefix N) (noIt) sl_strings_HasPrefix J_strings_HasPrefix Go.Proofs.Try.f126 [(Go.Eng.AV.sc (Go.Eng.SV.str s)), (Go.Eng.AV.sc (Go.Eng.SV.str s1))] [] K =
      g_strings_HasPrefix N s s1 (fun b1 => K (Go.Eng.AV.sc (Go.Eng.SV.bool b1)) []) := by kernel_rfl
def o_strings_HasPrefix (N : Nat) {R : Type} (args : List AV) (H : Hp E) (K : AV → Hp E → Option R) : Option R :=
  match args, H with
  | [(Go.Eng.AV.sc (Go.Eng.SV.str s)), (Go.Eng.AV.sc (Go.Eng.SV.str s1))], [] => g_strings_HasPrefix N s s1 (fun b1 => K (Go.Eng.AV.sc (Go.Eng.SV.bool b1)) [])
  | _, _ => none
theorem o_strings_HasPrefix_ok (N : Nat) : FnOk E 126 (o_strings_HasPrefix N) := by
  intro R args H K r h
  unfold o_strings_HasPrefix at h
  dsimp only at h
  split at h
  · exact fnB_ok (ids := []) (top := []) ok (O_strings_HasPrefix_ok N) (jn_ok _ _ _) Go.Proofs.Try.func126 (by kernel_rfl) (IT := noIt) (sl := sl_strings_HasPrefix) (J := J_strings_HasPrefix) (K := K) (H := []) (noIt_ok) (by kernel_rfl) rfl ((e_strings_HasPrefix N _ _ K).trans h)
  · cases h
/-! ### loop.example/g00038/impl.ywordAt -/
abbrev sl_impl_ywordAt : SlotT := []
abbrev J_impl_ywordAt : JT := jn [] [] []
noncomputable def O_impl_ywordAt (N : Nat) : Orc E := noFn
theorem O_impl_ywordAt_ok (N : Nat) : OrcOk (O_impl_ywordAt N) := noFn_ok
def g_impl_ywordAt (N : Nat) {R : Type} (s : ByteArray) (n : Int) (k : Int → Option R) : Option R :=
  (cond ((decide (((0 : Int) ≤ n))) && (decide ((n < (((ByteArray.size s) : Nat) : Int)))))
  (cond ((decide (((0 : Int) ≤ (Go.IntKind.wrap Go.IntKind.i64 (n + (1 : Int)))))) && (decide (((Go.IntKind.wrap Go.IntKind.i64 (n + (1 : Int))) < (((ByteArray.size s) : Nat) : Int)))))
    (cond ((decide (((0 : Int) ≤ (Go.IntKind.wrap Go.IntKind.i64 (n + (2 : Int)))))) && (decide (((Go.IntKind.wrap Go.IntKind.i64 (n + (2 : Int))) < (((ByteArray.size s) : Nat) : Int)))))
      (cond ((decide (((0 : Int) ≤ (Go.IntKind.wrap Go.IntKind.i64 (n + (3 : Int)))))) && (decide (((Go.IntKind.wrap Go.IntKind.i64 (n + (3 : Int))) < (((ByteArray.size s) : Nat) : Int)))))
        (k (Go.IntKind.wrap Go.IntKind.i64 (((BitVec.toNat ((BitVec.ofInt 64 (Go.IntKind.wrap Go.IntKind.i64 (((BitVec.toNat ((BitVec.ofInt 64 (Go.IntKind.wrap Go.IntKind.i64 (((BitVec.toNat ((BitVec.ofInt 64 (Go.IntKind.wrap Go.IntKind.i64 (Go.Eng.bt s (Int.toNat n)))) ||| (BitVec.ofInt 64 (Go.IntKind.wrap Go.IntKind.i64 ((Go.IntKind.wrap Go.IntKind.i64 (Go.Eng.bt s (Int.toNat (Go.IntKind.wrap Go.IntKind.i64 (n + (1 : Int)))))) * (256 : Int)))))) : Nat) : Int))) ||| (BitVec.ofInt 64 (Go.IntKind.wrap Go.IntKind.i64 ((Go.IntKind.wrap Go.IntKind.i64 (Go.Eng.bt s (Int.toNat (Go.IntKind.wrap Go.IntKind.i64 (n + (2 : Int)))))) * (65536 : Int)))))) : Nat) : Int))) ||| (BitVec.ofInt 64 (Go.IntKind.wrap Go.IntKind.i64 ((Go.IntKind.wrap Go.IntKind.i64 (Go.Eng.bt s (Int.toNat (Go.IntKind.wrap Go.IntKind.i64 (n + (3 : Int)))))) * (16777216 : Int)))))) : Nat) : Int)))
        none)
      none)
    none)
  none)
theorem e_impl_ywordAt (N : Nat) {R : Type} (s : ByteArray) (n : Int) (K : AV → Hp E → Option R) :
    runFnI (E := E) (O_impl_ywordAt N) (noIt) sl_impl_ywordAt J_impl_ywordAt Go.Proofs.Try.f85 [(Go.Eng.AV.sc (Go.Eng.SV.str s)), (Go.Eng.AV.sc (Go.Eng.SV.int Go.IntKind.i64 n))] [] K =
      g_impl_ywordAt N s n (fun n1 => K (Go.Eng.AV.sc (Go.Eng.SV.int Go.IntKind.i64 n1)) []) := by kernel_rfl
def o_impl_ywordAt (N : Nat) {R : Type} (args : List AV) (H : Hp E) (K : AV → Hp E → Option R) : Option R :=
  match args, H with
  | [(Go.Eng.AV.sc (Go.Eng.SV.str s)), (Go.Eng.AV.sc (Go.Eng.SV.int Go.IntKind.i64 n))], [] => g_impl_ywordAt N s n (fun n1 => K (Go.Eng.AV.sc (Go.Eng.SV.int Go.IntKind.i64 n1)) [])
  | _, _ => none
theorem o_impl_ywordAt_ok (N : Nat) : FnOk E 85 (o_impl_ywordAt N) := by
  intro R args H K r h
  unfold o_impl_ywordAt at h
  dsimp only at h
  split at h
  · exact fnB_ok (ids := []) (top := []) ok (O_impl_ywordAt_ok N) (jn_ok _ _ _) Go.Proofs.Try.func85 (by kernel_rfl) (IT := noIt) (sl := sl_impl_ywordAt) (J := J_impl_ywordAt) (K := K) (H := []) (noIt_ok) (by kernel_rfl) rfl ((e_impl_ywordAt N _ _ K).trans h)
  · cases h
/-! ### loop.example/g00038/impl.yin -/
abbrev sl_impl_yin : SlotT := []
abbrev J_impl_yin : JT := jn [(1, [(6, .b)])] [] []
noncomputable def O_impl_yin (N : Nat) : Orc E := noFn
theorem O_impl_yin_ok (N : Nat) : OrcOk (O_impl_yin N) := noFn_ok
def g_impl_yin (N : Nat) {R : Type} (n : Int) (n1 : Int) (n2 : Int) (k : Bool → Option R) : Option R :=
  (oK (cond (decide ((n ≥ n1)))
    (some (decide ((n ≤ n2))))
    (some Bool.false)) fun j =>
  (k j))
theorem e_impl_yin (N : Nat) {R : Type} (n : Int) (n1 : Int) (n2 : Int) (K : AV → Hp E → Option R) :
    runFnI (E := E) (O_impl_yin N) (noIt) sl_impl_yin J_impl_yin Go.Proofs.Try.f96 [(Go.Eng.AV.sc (Go.Eng.SV.int Go.IntKind.i64 n)), (Go.Eng.AV.sc (Go.Eng.SV.int Go.IntKind.i64 n1)), (Go.Eng.AV.sc (Go.Eng.SV.int Go.IntKind.i64 n2))] [] K =
      g_impl_yin N n n1 n2 (fun b => K (Go.Eng.AV.sc (Go.Eng.SV.bool b)) []) := by kernel_rfl
def o_impl_yin (N : Nat) {R : Type} (args : List AV) (H : Hp E) (K : AV → Hp E → Option R) : Option R :=
  match args, H with
  | [(Go.Eng.AV.sc (Go.Eng.SV.int Go.IntKind.i64 n)), (Go.Eng.AV.sc (Go.Eng.SV.int Go.IntKind.i64 n1)), (Go.Eng.AV.sc (Go.Eng.SV.int Go.IntKind.i64 n2))], [] => g_impl_yin N n n1 n2 (fun b => K (Go.Eng.AV.sc (Go.Eng.SV.bool b)) [])
  | _, _ => none
theorem o_impl_yin_ok (N : Nat) : FnOk E 96 (o_impl_yin N) := by
  intro R args H K r h
  unfold o_impl_yin at h
  dsimp only at h
  split at h
  · exact fnB_ok (ids := []) (top := []) ok (O_impl_yin_ok N) (jn_ok _ _ _) Go.Proofs.Try.func96 (by kernel_rfl) (IT := noIt) (sl := sl_impl_yin) (J := J_impl_yin) (K := K) (H := []) (noIt_ok) (by kernel_rfl) rfl ((e_impl_yin N _ _ _ K).trans h)
  · cases h
/-! ### loop.example/g00038/impl.yisWord -/
abbrev sl_impl_yisWord : SlotT := []
abbrev J_impl_yisWord : JT := jn [(1, [(2, .b)])] [] []
noncomputable def O_impl_yisWord (N : Nat) : Orc E := noFn
theorem O_impl_yisWord_ok (N : Nat) : OrcOk (O_impl_yisWord N) := noFn_ok
def g_impl_yisWord (N : Nat) {R : Type} (n : Int) (k : Bool → Option R) : Option R :=
  (oK (cond (decide ((n ≥ (0 : Int))))
    (some (decide ((n < (4294967296 : Int)))))
    (some Bool.false)) fun j =>
  (k j))
theorem e_impl_yisWord (N : Nat) {R : Type} (n : Int) (K : AV → Hp E → Option R) :
    runFnI (E := E) (O_impl_yisWord N) (noIt) sl_impl_yisWord J_impl_yisWord Go.Proofs.Try.f117 [(Go.Eng.AV.sc (Go.Eng.SV.int Go.IntKind.i64 n))] [] K =
      g_impl_yisWord N n (fun b => K (Go.Eng.AV.sc (Go.Eng.SV.bool b)) []) := by kernel_rfl
def o_impl_yisWord (N : Nat) {R : Type} (args : List AV) (H : Hp E) (K : AV → Hp E → Option R) : Option R :=
  match args, H with
  | [(Go.Eng.AV.sc (Go.Eng.SV.int Go.IntKind.i64 n))], [] => g_impl_yisWord N n (fun b => K (Go.Eng.AV.sc (Go.Eng.SV.bool b)) [])
  | _, _ => none
theorem o_impl_yisWord_ok (N : Nat) : FnOk E 117 (o_impl_yisWord N) := by
  intro R args H K r h
  unfold o_impl_yisWord at h
  dsimp only at h
  split at h
  · exact fnB_ok (ids := []) (top := []) ok (O_impl_yisWord_ok N) (jn_ok _ _ _) Go.Proofs.Try.func117 (by kernel_rfl) (IT := noIt) (sl := sl_impl_yisWord) (J := J_impl_yisWord) (K := K) (H := []) (noIt_ok) (by kernel_rfl) rfl ((e_impl_yisWord N _ K).trans h)
  · cases h
/-! ### loop.example/g00038/impl.EventsFault -/
abbrev sl_impl_EventsFault_w : SlotT := [(0, ([0, 10, 11, 12], [2]))]
abbrev J_impl_EventsFault_w : JT := jn [(6, [(5, .b)]), (7, [(6, .b)]), (8, [(69, .b)])] [] []
noncomputable def O_impl_EventsFault_w (N : Nat) : Orc E := addFn 117 (o_impl_yisWord N) (addFn 96 (o_impl_yin N) (noFn))
theorem O_impl_EventsFault_w_ok (N : Nat) : OrcOk (O_impl_EventsFault_w N) := addFn_ok (o_impl_yisWord_ok N) (addFn_ok (o_impl_yin_ok N) (noFn_ok))
def s_impl_EventsFault_w_0 (N : Nat) {R : Type} (b1 : Bool) (b2 : Bool) (n : Int) (l1 : List Go.Sa.Event) (n1 : Int) (ag : Int → Option R)  (kR : Option R) (kN : Option R) : Option R :=
  (cond (decide ((n1 < n)))
  (cond ((decide (((0 : Int) ≤ n1))) && (decide ((n1 < (((List.length l1) : Nat) : Int)))))
    (elemK l1 (Int.toNat n1) fun x =>
      (oK (cond ((Go.Sa.Event.fKind x) == (1 : Int))
        (g_impl_yin N (Go.Sa.Event.fNum x) (0 : Int) (6 : Int) fun b3 =>
          (cond b3
          (some ((Go.Sa.Event.fValue x) == (0 : Int)))
          (some Bool.false)))
        (some Bool.false)) fun j =>
      (oK (cond ((Go.Sa.Event.fKind x) == (2 : Int))
        (g_impl_yin N (Go.Sa.Event.fNum x) (0 : Int) (2047 : Int) fun b4 =>
          (cond b4
          (g_impl_yisWord N (Go.Sa.Event.fValue x) fun b5 =>
            (some b5))
          (some Bool.false)))
        (some Bool.false)) fun j1 =>
      (oK (cond (!j)
        (cond (!j1)
          (some Bool.true)
          (g_impl_yin N (Go.Sa.Event.fAt x) (0 : Int) (1099511627776 : Int) fun b6 =>
            (cond (!b6)
            (some Bool.true)
            (cond (decide ((n1 > (0 : Int))))
              (cond ((decide (((0 : Int) ≤ (Go.IntKind.wrap Go.IntKind.i64 (n1 - (1 : Int)))))) && (decide (((Go.IntKind.wrap Go.IntKind.i64 (n1 - (1 : Int))) < (((List.length l1) : Nat) : Int)))))
                (elemK l1 (Int.toNat (Go.IntKind.wrap Go.IntKind.i64 (n1 - (1 : Int)))) fun x1 =>
                  (some (decide (((Go.Sa.Event.fAt x1) > (Go.Sa.Event.fAt x))))))
                none)
              (some Bool.false)))))
        (g_impl_yin N (Go.Sa.Event.fAt x) (0 : Int) (1099511627776 : Int) fun b7 =>
          (cond (!b7)
          (some Bool.true)
          (cond (decide ((n1 > (0 : Int))))
            (cond ((decide (((0 : Int) ≤ (Go.IntKind.wrap Go.IntKind.i64 (n1 - (1 : Int)))))) && (decide (((Go.IntKind.wrap Go.IntKind.i64 (n1 - (1 : Int))) < (((List.length l1) : Nat) : Int)))))
              (elemK l1 (Int.toNat (Go.IntKind.wrap Go.IntKind.i64 (n1 - (1 : Int)))) fun x2 =>
                (some (decide (((Go.Sa.Event.fAt x2) > (Go.Sa.Event.fAt x))))))
              none)
            (some Bool.false))))) fun j2 =>
      (cond j2
      kR
      (ag (Go.IntKind.wrap Go.IntKind.i64 (n1 + (1 : Int)))))))))
    none)
  kN)
def l_impl_EventsFault_w_0 (N : Nat) {R : Type} (b1 : Bool) (b2 : Bool) (n : Int) (l1 : List Go.Sa.Event) (kR : Option R) (kN : Option R) : Nat → Int → Option R
  | 0, _ => none
  | f + 1, n1 => s_impl_EventsFault_w_0 N b1 b2 n l1 n1 (fun n1 => l_impl_EventsFault_w_0 N b1 b2 n l1 kR kN f n1)  kR kN
def c_impl_EventsFault_w_0 (N : Nat) {R : Type} (b1 : Bool) (b2 : Bool) (n : Int) (l1 : List Go.Sa.Event) (n1 : Int) (kR : Option R) (kN : Option R) : Option R := l_impl_EventsFault_w_0 N b1 b2 n l1 kR kN N n1
theorem se_impl_EventsFault_w_0 (N : Nat) {R : Type} (b1 : Bool) (b2 : Bool) (n : Int) (l1 : List Go.Sa.Event) (n1 : Int) (AG : List (Option AV) → Hp E → Option R) (KL : Ex → List (Option AV) → Hp E → Option R) :
    iterStep (E := E) (O_impl_EventsFault_w N) (fun {R} => LI (noIt) 1 71 sl_impl_EventsFault_w (R := R)) J_impl_EventsFault_w 1 71 0 [0, 10, 11, 12] [2] (body Go.Proofs.Try.f173 0) AG KL [(Option.some (Go.Eng.AV.sc (Go.Eng.SV.slc 0 Option.none b1))), (Option.some (Go.Eng.AV.sc (Go.Eng.SV.slc 0 Option.none b2))), (Option.some (Go.Eng.AV.sc (Go.Eng.SV.int Go.IntKind.i64 n))), (Option.some (Go.Eng.AV.sc (Go.Eng.SV.int Go.IntKind.i64 n1)))] [(Option.some (Go.Eng.HE.mk Bool.false (Go.Eng.HB.rows (Go.Sa.B.iEvent l1))))] =
      s_impl_EventsFault_w_0 N b1 b2 n l1 n1 (fun n1 => AG [(Option.some (Go.Eng.AV.sc (Go.Eng.SV.slc 0 Option.none b1))), (Option.some (Go.Eng.AV.sc (Go.Eng.SV.slc 0 Option.none b2))), (Option.some (Go.Eng.AV.sc (Go.Eng.SV.int Go.IntKind.i64 n))), (Option.some (Go.Eng.AV.sc (Go.Eng.SV.int Go.IntKind.i64 n1)))] [(Option.some (Go.Eng.HE.mk Bool.false (Go.Eng.HB.rows (Go.Sa.B.iEvent l1))))])  (KL Go.Eng.Ex.ret [(Option.some (Go.Eng.AV.sc (Go.Eng.SV.int Go.IntKind.i64 (1 : Int))))] [(Option.some (Go.Eng.HE.mk Bool.false (Go.Eng.HB.rows (Go.Sa.B.iEvent l1))))]) (KL Go.Eng.Ex.normal [Option.none] [(Option.some (Go.Eng.HE.mk Bool.false (Go.Eng.HB.rows (Go.Sa.B.iEvent l1))))]) := by kernel_rfl
theorem le_impl_EventsFault_w_0 (N : Nat) {R : Type} (b1 : Bool) (b2 : Bool) (n : Int) (l1 : List Go.Sa.Event) (KL : Ex → List (Option AV) → Hp E → Option R) : ∀ (f : Nat), ∀ (n1 : Int), iterK (E := E) (O_impl_EventsFault_w N) (fun {R} => LI (noIt) 1 71 sl_impl_EventsFault_w (R := R)) J_impl_EventsFault_w 1 71 0 [0, 10, 11, 12] [2] (body Go.Proofs.Try.f173 0) f [(Option.some (Go.Eng.AV.sc (Go.Eng.SV.slc 0 Option.none b1))), (Option.some (Go.Eng.AV.sc (Go.Eng.SV.slc 0 Option.none b2))), (Option.some (Go.Eng.AV.sc (Go.Eng.SV.int Go.IntKind.i64 n))), (Option.some (Go.Eng.AV.sc (Go.Eng.SV.int Go.IntKind.i64 n1)))] [(Option.some (Go.Eng.HE.mk Bool.false (Go.Eng.HB.rows (Go.Sa.B.iEvent l1))))] KL = l_impl_EventsFault_w_0 N b1 b2 n l1 (KL Go.Eng.Ex.ret [(Option.some (Go.Eng.AV.sc (Go.Eng.SV.int Go.IntKind.i64 (1 : Int))))] [(Option.some (Go.Eng.HE.mk Bool.false (Go.Eng.HB.rows (Go.Sa.B.iEvent l1))))]) (KL Go.Eng.Ex.normal [Option.none] [(Option.some (Go.Eng.HE.mk Bool.false (Go.Eng.HB.rows (Go.Sa.B.iEvent l1))))]) f n1 := by
  intro f
  induction f with
  | zero => intros; rfl
  | succ f ih =>
    intro n1
    rw [iterK_succ, se_impl_EventsFault_w_0]
    exact (congrArg (fun z0 => s_impl_EventsFault_w_0 N b1 b2 n l1 n1 z0 (KL Go.Eng.Ex.ret [(Option.some (Go.Eng.AV.sc (Go.Eng.SV.int Go.IntKind.i64 (1 : Int))))] [(Option.some (Go.Eng.HE.mk Bool.false (Go.Eng.HB.rows (Go.Sa.B.iEvent l1))))]) (KL Go.Eng.Ex.normal [Option.none] [(Option.some (Go.Eng.HE.mk Bool.false (Go.Eng.HB.rows (Go.Sa.B.iEvent l1))))])) (funext fun n1 => ih n1))
def i_impl_EventsFault_w_0 (N : Nat) {R : Type} (vs : List (Option AV)) (H : Hp E) (KL : Ex → List (Option AV) → Hp E → Option R) : Option R :=
  match vs, H with
  | [(Option.some (Go.Eng.AV.sc (Go.Eng.SV.slc 0 Option.none b1))), (Option.some (Go.Eng.AV.sc (Go.Eng.SV.slc 0 Option.none b2))), (Option.some (Go.Eng.AV.sc (Go.Eng.SV.int Go.IntKind.i64 n))), (Option.some (Go.Eng.AV.sc (Go.Eng.SV.int Go.IntKind.i64 n1)))], [(Option.some (Go.Eng.HE.mk Bool.false (Go.Eng.HB.rows (Go.Sa.B.iEvent l1))))] => c_impl_EventsFault_w_0 N b1 b2 n l1 n1 (KL Go.Eng.Ex.ret [(Option.some (Go.Eng.AV.sc (Go.Eng.SV.int Go.IntKind.i64 (1 : Int))))] [(Option.some (Go.Eng.HE.mk Bool.false (Go.Eng.HB.rows (Go.Sa.B.iEvent l1))))]) (KL Go.Eng.Ex.normal [Option.none] [(Option.some (Go.Eng.HE.mk Bool.false (Go.Eng.HB.rows (Go.Sa.B.iEvent l1))))])
  | _, _ => none
noncomputable def IT_impl_EventsFault_w_0 (N : Nat) : Its E := addIt 0 (i_impl_EventsFault_w_0 N) (noIt)
theorem IT_impl_EventsFault_w_0_ok (N : Nat) : ItOk (IT_impl_EventsFault_w_0 N) 1 71 sl_impl_EventsFault_w (lsB Go.Proofs.Try.f173 [0]) :=
  addItB_ok (inner := []) ok (O_impl_EventsFault_w_ok N) (jn_ok _ _ _) (noIt_ok) rfl (by kernel_rfl) rfl fun vs H KL r h => by
    unfold i_impl_EventsFault_w_0 at h
    split at h
    · exact ⟨_, (le_impl_EventsFault_w_0 N _ _ _ _ KL N _).trans h⟩
    · cases h
def g_impl_EventsFault_w (N : Nat) {R : Type} (b : Bool) (l : List Go.Sa.Event) (k : Int → Option R) : Option R :=
  (cond (decide (((((List.length l) : Nat) : Int) > (200 : Int))))
  (k (1 : Int))
  (c_impl_EventsFault_w_0 N b b (((List.length l) : Nat) : Int) l (0 : Int) (
    (k (1 : Int))) (
    (k (0 : Int)))))
theorem e_impl_EventsFault_w (N : Nat) {R : Type} (b : Bool) (l : List Go.Sa.Event) (K : AV → Hp E → Option R) :
    runFnI (E := E) (O_impl_EventsFault_w N) (IT_impl_EventsFault_w_0 N) sl_impl_EventsFault_w J_impl_EventsFault_w Go.Proofs.Try.f173 [(Go.Eng.AV.sc (Go.Eng.SV.slc 0 Option.none b))] [(Option.some (Go.Eng.HE.mk Bool.false (Go.Eng.HB.rows (Go.Sa.B.iEvent l))))] K =
      g_impl_EventsFault_w N b l (fun n2 => K (Go.Eng.AV.sc (Go.Eng.SV.int Go.IntKind.i64 n2)) [(Option.some (Go.Eng.HE.mk Bool.false (Go.Eng.HB.rows (Go.Sa.B.iEvent l))))]) := by kernel_rfl
def o_impl_EventsFault_w (N : Nat) {R : Type} (args : List AV) (H : Hp E) (K : AV → Hp E → Option R) : Option R :=
  match args, H with
  | [(Go.Eng.AV.sc (Go.Eng.SV.slc 0 Option.none b))], [(Option.some (Go.Eng.HE.mk Bool.false (Go.Eng.HB.rows (Go.Sa.B.iEvent l))))] => g_impl_EventsFault_w N b l (fun n2 => K (Go.Eng.AV.sc (Go.Eng.SV.int Go.IntKind.i64 n2)) [(Option.some (Go.Eng.HE.mk Bool.false (Go.Eng.HB.rows (Go.Sa.B.iEvent l))))])
  | _, _ => none
theorem o_impl_EventsFault_w_ok (N : Nat) : FnOk E 173 (o_impl_EventsFault_w N) := by
  intro R args H K r h
  unfold o_impl_EventsFault_w at h
  dsimp only at h
  split at h
  · exact fnB_ok (ids := [0]) (top := [0]) ok (O_impl_EventsFault_w_ok N) (jn_ok _ _ _) Go.Proofs.Try.func173 (by kernel_rfl) (IT := IT_impl_EventsFault_w_0 N) (sl := sl_impl_EventsFault_w) (J := J_impl_EventsFault_w) (K := K) (H := [(Option.some (Go.Eng.HE.mk Bool.false (Go.Eng.HB.rows (Go.Sa.B.iEvent _))))]) (IT_impl_EventsFault_w_0_ok N) (by kernel_rfl) rfl ((e_impl_EventsFault_w N _ _ K).trans h)
  · cases h
/-! ### loop.example/g00038/impl.PutWord -/
abbrev sl_impl_PutWord : SlotT := []
abbrev J_impl_PutWord : JT := jn [] [] []
noncomputable def O_impl_PutWord (N : Nat) : Orc E := noFn
theorem O_impl_PutWord_ok (N : Nat) : OrcOk (O_impl_PutWord N) := noFn_ok
def g_impl_PutWord (N : Nat) {R : Type} (n : Int) (k : ByteArray → Option R) : Option R :=
  (k (Go.Eng.toBytes (Go.Eng.seg [(Go.IntKind.wrap Go.IntKind.u8 (Go.IntKind.wrap Go.IntKind.u32 n)), (Go.IntKind.wrap Go.IntKind.u8 (Int.fdiv (Go.IntKind.wrap Go.IntKind.u32 n) (256 : Int))), (Go.IntKind.wrap Go.IntKind.u8 (Int.fdiv (Go.IntKind.wrap Go.IntKind.u32 n) (65536 : Int))), (Go.IntKind.wrap Go.IntKind.u8 (Int.fdiv (Go.IntKind.wrap Go.IntKind.u32 n) (16777216 : Int)))] 0 (List.length [(Go.IntKind.wrap Go.IntKind.u8 (Go.IntKind.wrap Go.IntKind.u32 n)), (Go.IntKind.wrap Go.IntKind.u8 (Int.fdiv (Go.IntKind.wrap Go.IntKind.u32 n) (256 : Int))), (Go.IntKind.wrap Go.IntKind.u8 (Int.fdiv (Go.IntKind.wrap Go.IntKind.u32 n) (65536 : Int))), (Go.IntKind.wrap Go.IntKind.u8 (Int.fdiv (Go.IntKind.wrap Go.IntKind.u32 n) (16777216 : Int)))]))))
theorem e_impl_PutWord (N : Nat) {R : Type} (n : Int) (K : AV → Hp E → Option R) :
    runFnI (E := E) (O_impl_PutWord N) (noIt) sl_impl_PutWord J_impl_PutWord Go.Proofs.Try.f106 [(Go.Eng.AV.sc (Go.Eng.SV.int Go.IntKind.i64 n))] [] K =
      g_impl_PutWord N n (fun s => K (Go.Eng.AV.sc (Go.Eng.SV.str s)) []) := by kernel_rfl
def o_impl_PutWord (N : Nat) {R : Type} (args : List AV) (H : Hp E) (K : AV → Hp E → Option R) : Option R :=
  match args, H with
  | [(Go.Eng.AV.sc (Go.Eng.SV.int Go.IntKind.i64 n))], [] => g_impl_PutWord N n (fun s => K (Go.Eng.AV.sc (Go.Eng.SV.str s)) [])
  | _, _ => none
theorem o_impl_PutWord_ok (N : Nat) : FnOk E 106 (o_impl_PutWord N) := by
  intro R args H K r h
  unfold o_impl_PutWord at h
  dsimp only at h
  split at h
  · exact fnB_ok (ids := []) (top := []) ok (O_impl_PutWord_ok N) (jn_ok _ _ _) Go.Proofs.Try.func106 (by kernel_rfl) (IT := noIt) (sl := sl_impl_PutWord) (J := J_impl_PutWord) (K := K) (H := []) (noIt_ok) (by kernel_rfl) rfl ((e_impl_PutWord N _ K).trans h)
  · cases h
/-! ### loop.example/g00038/impl.yjoin -/
abbrev sl_impl_yjoin_r : SlotT := []
abbrev J_impl_yjoin_r : JT := jn [] [] []
noncomputable def O_impl_yjoin_r (N : Nat) : Orc E := addFn 167 osp_167 (noFn)
theorem O_impl_yjoin_r_ok (N : Nat) : OrcOk (O_impl_yjoin_r N) := addFn_ok osp_167_ok (noFn_ok)
def g_impl_yjoin_r (N : Nat) {R : Type} (b : Bool) (l : List ByteArray) (k : ByteArray → Option R) : Option R :=
  (cond (Go.Eng.joinOk l (ByteArray.mk (List.toArray [])))
  (k (Go.Eng.joinB l (ByteArray.mk (List.toArray []))))
  none)
theorem e_impl_yjoin_r (N : Nat) {R : Type} (b : Bool) (l : List ByteArray) (K : AV → Hp E → Option R) :
    runFnI (E := E) (O_impl_yjoin_r N) (noIt) sl_impl_yjoin_r J_impl_yjoin_r Go.Proofs.Try.f121 [(Go.Eng.AV.sc (Go.Eng.SV.slc 0 Option.none b))] [(Option.some (Go.Eng.HE.mk Bool.true (Go.Eng.HB.rows (Go.Sa.B.str l))))] K =
      g_impl_yjoin_r N b l (fun s => K (Go.Eng.AV.sc (Go.Eng.SV.str s)) [(Option.some (Go.Eng.HE.mk Bool.true (Go.Eng.HB.rows (Go.Sa.B.str l))))]) := by kernel_rfl
def o_impl_yjoin_r (N : Nat) {R : Type} (args : List AV) (H : Hp E) (K : AV → Hp E → Option R) : Option R :=
  match args, H with
  | [(Go.Eng.AV.sc (Go.Eng.SV.slc 0 Option.none b))], [(Option.some (Go.Eng.HE.mk Bool.true (Go.Eng.HB.rows (Go.Sa.B.str l))))] => g_impl_yjoin_r N b l (fun s => K (Go.Eng.AV.sc (Go.Eng.SV.str s)) [(Option.some (Go.Eng.HE.mk Bool.true (Go.Eng.HB.rows (Go.Sa.B.str l))))])
  | _, _ => none
theorem o_impl_yjoin_r_ok (N : Nat) : FnOk E 121 (o_impl_yjoin_r N) := by
  intro R args H K r h
  unfold o_impl_yjoin_r at h
  dsimp only at h
  split at h
  · exact fnB_ok (ids := []) (top := []) ok (O_impl_yjoin_r_ok N) (jn_ok _ _ _) Go.Proofs.Try.func121 (by kernel_rfl) (IT := noIt) (sl := sl_impl_yjoin_r) (J := J_impl_yjoin_r) (K := K) (H := [(Option.some (Go.Eng.HE.mk Bool.true (Go.Eng.HB.rows (Go.Sa.B.str _))))]) (noIt_ok) (by kernel_rfl) rfl ((e_impl_yjoin_r N _ _ K).trans h)
  · cases h
/-! ### loop.example/g00038/impl.PackEvents -/
abbrev sl_impl_PackEvents_w : SlotT := [(0, ([3, 9, 10, 11], [3]))]
abbrev J_impl_PackEvents_w : JT := jn [] [] []
noncomputable def O_impl_PackEvents_w (N : Nat) : Orc E := addFn 121 (o_impl_yjoin_r N) (addFn 106 (o_impl_PutWord N) (addFn 173 (o_impl_EventsFault_w N) (noFn)))
theorem O_impl_PackEvents_w_ok (N : Nat) : OrcOk (O_impl_PackEvents_w N) := addFn_ok (o_impl_yjoin_r_ok N) (addFn_ok (o_impl_PutWord_ok N) (addFn_ok (o_impl_EventsFault_w_ok N) (noFn_ok)))
def s_impl_PackEvents_w_0 (N : Nat) {R : Type} (b1 : Bool) (n1 : Int) (l1 : List Go.Sa.Event) (s : ByteArray) (n2 : Int) (ag : ByteArray → Int → Option R)  (kN : ByteArray → Option R) : Option R :=
  (cond (decide ((n2 < n1)))
  (cond ((decide (((0 : Int) ≤ n2))) && (decide ((n2 < (((List.length l1) : Nat) : Int)))))
    (elemK l1 (Int.toNat n2) fun x =>
      (g_impl_PutWord N (Int.tmod (Go.Sa.Event.fAt x) (4294967296 : Int)) fun s1 =>
      (g_impl_PutWord N (Go.IntKind.wrap Go.IntKind.i64 (Int.tdiv (Go.Sa.Event.fAt x) (4294967296 : Int))) fun s2 =>
      (g_impl_PutWord N (Go.IntKind.wrap Go.IntKind.i64 ((Go.IntKind.wrap Go.IntKind.i64 ((Go.Sa.Event.fKind x) * (65536 : Int))) + (Go.Sa.Event.fNum x))) fun s3 =>
      (g_impl_PutWord N (Go.Sa.Event.fValue x) fun s4 =>
      (g_impl_yjoin_r N Bool.false [s, s1, s2, s3, s4] fun s5 =>
      (ag s5 (Go.IntKind.wrap Go.IntKind.i64 (n2 + (1 : Int))))))))))
    none)
  (kN s))
def l_impl_PackEvents_w_0 (N : Nat) {R : Type} (b1 : Bool) (n1 : Int) (l1 : List Go.Sa.Event) (kN : ByteArray → Option R) : Nat → ByteArray → Int → Option R
  | 0, _, _ => none
  | f + 1, s, n2 => s_impl_PackEvents_w_0 N b1 n1 l1 s n2 (fun s n2 => l_impl_PackEvents_w_0 N b1 n1 l1 kN f s n2)  kN
def c_impl_PackEvents_w_0 (N : Nat) {R : Type} (b1 : Bool) (n1 : Int) (l1 : List Go.Sa.Event) (s : ByteArray) (n2 : Int) (kN : ByteArray → Option R) : Option R := l_impl_PackEvents_w_0 N b1 n1 l1 kN N s n2
theorem se_impl_PackEvents_w_0 (N : Nat) {R : Type} (b1 : Bool) (n1 : Int) (l1 : List Go.Sa.Event) (s : ByteArray) (n2 : Int) (AG : List (Option AV) → Hp E → Option R) (KL : Ex → List (Option AV) → Hp E → Option R) :
    iterStep (E := E) (O_impl_PackEvents_w N) (fun {R} => LI (noIt) 1 38 sl_impl_PackEvents_w (R := R)) J_impl_PackEvents_w 1 38 0 [3, 9, 10, 11] [3] (body Go.Proofs.Try.f127 0) AG KL [(Option.some (Go.Eng.AV.sc (Go.Eng.SV.str s))), (Option.some (Go.Eng.AV.sc (Go.Eng.SV.slc 0 Option.none b1))), (Option.some (Go.Eng.AV.sc (Go.Eng.SV.int Go.IntKind.i64 n1))), (Option.some (Go.Eng.AV.sc (Go.Eng.SV.int Go.IntKind.i64 n2)))] [(Option.some (Go.Eng.HE.mk Bool.false (Go.Eng.HB.rows (Go.Sa.B.iEvent l1))))] =
      s_impl_PackEvents_w_0 N b1 n1 l1 s n2 (fun s n2 => AG [(Option.some (Go.Eng.AV.sc (Go.Eng.SV.str s))), (Option.some (Go.Eng.AV.sc (Go.Eng.SV.slc 0 Option.none b1))), (Option.some (Go.Eng.AV.sc (Go.Eng.SV.int Go.IntKind.i64 n1))), (Option.some (Go.Eng.AV.sc (Go.Eng.SV.int Go.IntKind.i64 n2)))] [(Option.some (Go.Eng.HE.mk Bool.false (Go.Eng.HB.rows (Go.Sa.B.iEvent l1))))])  (fun s8 => KL Go.Eng.Ex.normal [(Option.some (Go.Eng.AV.sc (Go.Eng.SV.str s8)))] [(Option.some (Go.Eng.HE.mk Bool.false (Go.Eng.HB.rows (Go.Sa.B.iEvent l1))))]) := by kernel_rfl
theorem le_impl_PackEvents_w_0 (N : Nat) {R : Type} (b1 : Bool) (n1 : Int) (l1 : List Go.Sa.Event) (KL : Ex → List (Option AV) → Hp E → Option R) : ∀ (f : Nat), ∀ (s : ByteArray) (n2 : Int), iterK (E := E) (O_impl_PackEvents_w N) (fun {R} => LI (noIt) 1 38 sl_impl_PackEvents_w (R := R)) J_impl_PackEvents_w 1 38 0 [3, 9, 10, 11] [3] (body Go.Proofs.Try.f127 0) f [(Option.some (Go.Eng.AV.sc (Go.Eng.SV.str s))), (Option.some (Go.Eng.AV.sc (Go.Eng.SV.slc 0 Option.none b1))), (Option.some (Go.Eng.AV.sc (Go.Eng.SV.int Go.IntKind.i64 n1))), (Option.some (Go.Eng.AV.sc (Go.Eng.SV.int Go.IntKind.i64 n2)))] [(Option.some (Go.Eng.HE.mk Bool.false (Go.Eng.HB.rows (Go.Sa.B.iEvent l1))))] KL = l_impl_PackEvents_w_0 N b1 n1 l1 (fun s8 => KL Go.Eng.Ex.normal [(Option.some (Go.Eng.AV.sc (Go.Eng.SV.str s8)))] [(Option.some (Go.Eng.HE.mk Bool.false (Go.Eng.HB.rows (Go.Sa.B.iEvent l1))))]) f s n2 := by
  intro f
  induction f with
  | zero => intros; rfl
  | succ f ih =>
    intro s n2
    rw [iterK_succ, se_impl_PackEvents_w_0]
    exact (congrArg (fun z0 => s_impl_PackEvents_w_0 N b1 n1 l1 s n2 z0 (fun s8 => KL Go.Eng.Ex.normal [(Option.some (Go.Eng.AV.sc (Go.Eng.SV.str s8)))] [(Option.some (Go.Eng.HE.mk Bool.false (Go.Eng.HB.rows (Go.Sa.B.iEvent l1))))])) (funext fun s => funext fun n2 => ih s n2))
def i_impl_PackEvents_w_0 (N : Nat) {R : Type} (vs : List (Option AV)) (H : Hp E) (KL : Ex → List (Option AV) → Hp E → Option R) : Option R :=
  match vs, H with
  | [(Option.some (Go.Eng.AV.sc (Go.Eng.SV.str s))), (Option.some (Go.Eng.AV.sc (Go.Eng.SV.slc 0 Option.none b1))), (Option.some (Go.Eng.AV.sc (Go.Eng.SV.int Go.IntKind.i64 n1))), (Option.some (Go.Eng.AV.sc (Go.Eng.SV.int Go.IntKind.i64 n2)))], [(Option.some (Go.Eng.HE.mk Bool.false (Go.Eng.HB.rows (Go.Sa.B.iEvent l1))))] => c_impl_PackEvents_w_0 N b1 n1 l1 s n2 (fun s9 => KL Go.Eng.Ex.normal [(Option.some (Go.Eng.AV.sc (Go.Eng.SV.str s9)))] [(Option.some (Go.Eng.HE.mk Bool.false (Go.Eng.HB.rows (Go.Sa.B.iEvent l1))))])
  | _, _ => none
noncomputable def IT_impl_PackEvents_w_0 (N : Nat) : Its E := addIt 0 (i_impl_PackEvents_w_0 N) (noIt)
theorem IT_impl_PackEvents_w_0_ok (N : Nat) : ItOk (IT_impl_PackEvents_w_0 N) 1 38 sl_impl_PackEvents_w (lsB Go.Proofs.Try.f127 [0]) :=
  addItB_ok (inner := []) ok (O_impl_PackEvents_w_ok N) (jn_ok _ _ _) (noIt_ok) rfl (by kernel_rfl) rfl fun vs H KL r h => by
    unfold i_impl_PackEvents_w_0 at h
    split at h
    · exact ⟨_, (le_impl_PackEvents_w_0 N _ _ _ KL N _ _).trans h⟩
    · cases h
def g_impl_PackEvents_w (N : Nat) {R : Type} (b : Bool) (l : List Go.Sa.Event) (k : ByteArray → Option R) : Option R :=
  (g_impl_EventsFault_w N b l fun n =>
  (cond (n != (0 : Int))
  (k (ByteArray.mk (List.toArray [])))
  (c_impl_PackEvents_w_0 N b (((List.length l) : Nat) : Int) l (ByteArray.mk (List.toArray [(86 : UInt8), (69 : UInt8), (49 : UInt8), (10 : UInt8)])) (0 : Int) fun s6 =>
    (k s6))))
theorem e_impl_PackEvents_w (N : Nat) {R : Type} (b : Bool) (l : List Go.Sa.Event) (K : AV → Hp E → Option R) :
    runFnI (E := E) (O_impl_PackEvents_w N) (IT_impl_PackEvents_w_0 N) sl_impl_PackEvents_w J_impl_PackEvents_w Go.Proofs.Try.f127 [(Go.Eng.AV.sc (Go.Eng.SV.slc 0 Option.none b))] [(Option.some (Go.Eng.HE.mk Bool.false (Go.Eng.HB.rows (Go.Sa.B.iEvent l))))] K =
      g_impl_PackEvents_w N b l (fun s7 => K (Go.Eng.AV.sc (Go.Eng.SV.str s7)) [(Option.some (Go.Eng.HE.mk Bool.false (Go.Eng.HB.rows (Go.Sa.B.iEvent l))))]) := by kernel_rfl
def o_impl_PackEvents_w (N : Nat) {R : Type} (args : List AV) (H : Hp E) (K : AV → Hp E → Option R) : Option R :=
  match args, H with
  | [(Go.Eng.AV.sc (Go.Eng.SV.slc 0 Option.none b))], [(Option.some (Go.Eng.HE.mk Bool.false (Go.Eng.HB.rows (Go.Sa.B.iEvent l))))] => g_impl_PackEvents_w N b l (fun s7 => K (Go.Eng.AV.sc (Go.Eng.SV.str s7)) [(Option.some (Go.Eng.HE.mk Bool.false (Go.Eng.HB.rows (Go.Sa.B.iEvent l))))])
  | _, _ => none
theorem o_impl_PackEvents_w_ok (N : Nat) : FnOk E 127 (o_impl_PackEvents_w N) := by
  intro R args H K r h
  unfold o_impl_PackEvents_w at h
  dsimp only at h
  split at h
  · exact fnB_ok (ids := [0]) (top := [0]) ok (O_impl_PackEvents_w_ok N) (jn_ok _ _ _) Go.Proofs.Try.func127 (by kernel_rfl) (IT := IT_impl_PackEvents_w_0 N) (sl := sl_impl_PackEvents_w) (J := J_impl_PackEvents_w) (K := K) (H := [(Option.some (Go.Eng.HE.mk Bool.false (Go.Eng.HB.rows (Go.Sa.B.iEvent _))))]) (IT_impl_PackEvents_w_0_ok N) (by kernel_rfl) rfl ((e_impl_PackEvents_w N _ _ K).trans h)
  · cases h
/-! ### loop.example/g00038/impl.UnpackEvents -/
abbrev sl_impl_UnpackEvents : SlotT := [(0, ([0, 3, 4], [0, 3]))]
abbrev J_impl_UnpackEvents : JT := jn [(1, [(24, .b)])] [] []
noncomputable def O_impl_UnpackEvents (N : Nat) : Orc E := addFn 127 (o_impl_PackEvents_w N) (addFn 85 (o_impl_ywordAt N) (addFn 126 (o_strings_HasPrefix N) (addFn 76 (o_impl_ybig_w N) (noFn))))
theorem O_impl_UnpackEvents_ok (N : Nat) : OrcOk (O_impl_UnpackEvents N) := addFn_ok (o_impl_PackEvents_w_ok N) (addFn_ok (o_impl_ywordAt_ok N) (addFn_ok (o_strings_HasPrefix_ok N) (addFn_ok (o_impl_ybig_w_ok N) (noFn_ok))))
def s_impl_UnpackEvents_0 (N : Nat) {R : Type} (s1 : ByteArray) (b2 : Bool) (n : Int) (l : List Go.Sa.Event) (ag : Bool → Int → (List Go.Sa.Event) → Option R)  (kN : Bool → (List Go.Sa.Event) → Option R) : Option R :=
  (cond (decide ((n < (((ByteArray.size s1) : Nat) : Int))))
  (g_impl_ywordAt N s1 (Go.IntKind.wrap Go.IntKind.i64 (n + (8 : Int))) fun n1 =>
    (g_impl_ywordAt N s1 n fun n2 =>
    (g_impl_ywordAt N s1 (Go.IntKind.wrap Go.IntKind.i64 (n + (4 : Int))) fun n3 =>
    (g_impl_ywordAt N s1 (Go.IntKind.wrap Go.IntKind.i64 (n + (12 : Int))) fun n4 =>
    (cond (Go.Eng.roomOk ((List.length l) + (List.length [(Go.Sa.Event.mk (Go.IntKind.wrap Go.IntKind.i64 (n2 + (Go.IntKind.wrap Go.IntKind.i64 (n3 * (4294967296 : Int))))) (Go.IntKind.wrap Go.IntKind.i64 (Int.tdiv n1 (65536 : Int))) (Int.tmod n1 (65536 : Int)) n4)])) 32)
    (ag (cond (Nat.beq (List.length [(Go.Sa.Event.mk (Go.IntKind.wrap Go.IntKind.i64 (n2 + (Go.IntKind.wrap Go.IntKind.i64 (n3 * (4294967296 : Int))))) (Go.IntKind.wrap Go.IntKind.i64 (Int.tdiv n1 (65536 : Int))) (Int.tmod n1 (65536 : Int)) n4)]) 0) b2 Bool.false) (Go.IntKind.wrap Go.IntKind.i64 (n + (16 : Int))) (l ++ [(Go.Sa.Event.mk (Go.IntKind.wrap Go.IntKind.i64 (n2 + (Go.IntKind.wrap Go.IntKind.i64 (n3 * (4294967296 : Int))))) (Go.IntKind.wrap Go.IntKind.i64 (Int.tdiv n1 (65536 : Int))) (Int.tmod n1 (65536 : Int)) n4)]))
    none)))))
  (kN b2 l))
def l_impl_UnpackEvents_0 (N : Nat) {R : Type} (s1 : ByteArray) (kN : Bool → (List Go.Sa.Event) → Option R) : Nat → Bool → Int → (List Go.Sa.Event) → Option R
  | 0, _, _, _ => none
  | f + 1, b2, n, l => s_impl_UnpackEvents_0 N s1 b2 n l (fun b2 n l => l_impl_UnpackEvents_0 N s1 kN f b2 n l)  kN
def c_impl_UnpackEvents_0 (N : Nat) {R : Type} (s1 : ByteArray) (b2 : Bool) (n : Int) (l : List Go.Sa.Event) (kN : Bool → (List Go.Sa.Event) → Option R) : Option R := l_impl_UnpackEvents_0 N s1 kN N b2 n l
theorem se_impl_UnpackEvents_0 (N : Nat) {R : Type} (s1 : ByteArray) (b2 : Bool) (n : Int) (l : List Go.Sa.Event) (AG : List (Option AV) → Hp E → Option R) (KL : Ex → List (Option AV) → Hp E → Option R) :
    iterStep (E := E) (O_impl_UnpackEvents N) (fun {R} => LI (noIt) 0 61 sl_impl_UnpackEvents (R := R)) J_impl_UnpackEvents 0 61 0 [0, 3, 4] [0, 3] (body Go.Proofs.Try.f50 0) AG KL [(Option.some (Go.Eng.AV.sc (Go.Eng.SV.str s1))), (Option.some (Go.Eng.AV.sc (Go.Eng.SV.slc 0 Option.none b2))), (Option.some (Go.Eng.AV.sc (Go.Eng.SV.int Go.IntKind.i64 n)))] [(Option.some (Go.Eng.HE.mk Bool.false (Go.Eng.HB.rows (Go.Sa.B.iEvent l))))] =
      s_impl_UnpackEvents_0 N s1 b2 n l (fun b2 n l => AG [(Option.some (Go.Eng.AV.sc (Go.Eng.SV.str s1))), (Option.some (Go.Eng.AV.sc (Go.Eng.SV.slc 0 Option.none b2))), (Option.some (Go.Eng.AV.sc (Go.Eng.SV.int Go.IntKind.i64 n)))] [(Option.some (Go.Eng.HE.mk Bool.false (Go.Eng.HB.rows (Go.Sa.B.iEvent l))))])  (fun b5 l3 => KL Go.Eng.Ex.normal [(Option.some (Go.Eng.AV.sc (Go.Eng.SV.str s1))), (Option.some (Go.Eng.AV.sc (Go.Eng.SV.slc 0 Option.none b5)))] [(Option.some (Go.Eng.HE.mk Bool.false (Go.Eng.HB.rows (Go.Sa.B.iEvent l3))))]) := by kernel_rfl
theorem le_impl_UnpackEvents_0 (N : Nat) {R : Type} (s1 : ByteArray) (KL : Ex → List (Option AV) → Hp E → Option R) : ∀ (f : Nat), ∀ (b2 : Bool) (n : Int) (l : List Go.Sa.Event), iterK (E := E) (O_impl_UnpackEvents N) (fun {R} => LI (noIt) 0 61 sl_impl_UnpackEvents (R := R)) J_impl_UnpackEvents 0 61 0 [0, 3, 4] [0, 3] (body Go.Proofs.Try.f50 0) f [(Option.some (Go.Eng.AV.sc (Go.Eng.SV.str s1))), (Option.some (Go.Eng.AV.sc (Go.Eng.SV.slc 0 Option.none b2))), (Option.some (Go.Eng.AV.sc (Go.Eng.SV.int Go.IntKind.i64 n)))] [(Option.some (Go.Eng.HE.mk Bool.false (Go.Eng.HB.rows (Go.Sa.B.iEvent l))))] KL = l_impl_UnpackEvents_0 N s1 (fun b5 l3 => KL Go.Eng.Ex.normal [(Option.some (Go.Eng.AV.sc (Go.Eng.SV.str s1))), (Option.some (Go.Eng.AV.sc (Go.Eng.SV.slc 0 Option.none b5)))] [(Option.some (Go.Eng.HE.mk Bool.false (Go.Eng.HB.rows (Go.Sa.B.iEvent l3))))]) f b2 n l := by
  intro f
  induction f with
  | zero => intros; rfl
  | succ f ih =>
    intro b2 n l
    rw [iterK_succ, se_impl_UnpackEvents_0]
    exact (congrArg (fun z0 => s_impl_UnpackEvents_0 N s1 b2 n l z0 (fun b5 l3 => KL Go.Eng.Ex.normal [(Option.some (Go.Eng.AV.sc (Go.Eng.SV.str s1))), (Option.some (Go.Eng.AV.sc (Go.Eng.SV.slc 0 Option.none b5)))] [(Option.some (Go.Eng.HE.mk Bool.false (Go.Eng.HB.rows (Go.Sa.B.iEvent l3))))])) (funext fun b2 => funext fun n => funext fun l => ih b2 n l))
def i_impl_UnpackEvents_0 (N : Nat) {R : Type} (vs : List (Option AV)) (H : Hp E) (KL : Ex → List (Option AV) → Hp E → Option R) : Option R :=
  match vs, H with
  | [(Option.some (Go.Eng.AV.sc (Go.Eng.SV.str s1))), (Option.some (Go.Eng.AV.sc (Go.Eng.SV.slc 0 Option.none b2))), (Option.some (Go.Eng.AV.sc (Go.Eng.SV.int Go.IntKind.i64 n)))], [(Option.some (Go.Eng.HE.mk Bool.false (Go.Eng.HB.rows (Go.Sa.B.iEvent l))))] => c_impl_UnpackEvents_0 N s1 b2 n l (fun b6 l4 => KL Go.Eng.Ex.normal [(Option.some (Go.Eng.AV.sc (Go.Eng.SV.str s1))), (Option.some (Go.Eng.AV.sc (Go.Eng.SV.slc 0 Option.none b6)))] [(Option.some (Go.Eng.HE.mk Bool.false (Go.Eng.HB.rows (Go.Sa.B.iEvent l4))))])
  | _, _ => none
noncomputable def IT_impl_UnpackEvents_0 (N : Nat) : Its E := addIt 0 (i_impl_UnpackEvents_0 N) (noIt)
theorem IT_impl_UnpackEvents_0_ok (N : Nat) : ItOk (IT_impl_UnpackEvents_0 N) 0 61 sl_impl_UnpackEvents (lsB Go.Proofs.Try.f50 [0]) :=
  addItB_ok (inner := []) ok (O_impl_UnpackEvents_ok N) (jn_ok _ _ _) (noIt_ok) rfl (by kernel_rfl) rfl fun vs H KL r h => by
    unfold i_impl_UnpackEvents_0 at h
    split at h
    · exact ⟨_, (le_impl_UnpackEvents_0 N _ KL N _ _ _).trans h⟩
    · cases h
def g_impl_UnpackEvents (N : Nat) {R : Type} (s : ByteArray) (k : Bool → (List Go.Sa.Event) → Option R) : Option R :=
  (oK (g_impl_ybig_w N Bool.false [s] fun b =>
    (cond b
    (some Bool.true)
    (g_strings_HasPrefix N s (ByteArray.mk (List.toArray [(86 : UInt8), (69 : UInt8), (49 : UInt8), (10 : UInt8)])) fun b1 =>
      (cond (!b1)
      (some Bool.true)
      (cond ((Int.tmod (((ByteArray.size s) : Nat) : Int) (16 : Int)) != (4 : Int))
        (some Bool.true)
        (some (decide (((((ByteArray.size s) : Nat) : Int) > (3204 : Int)))))))))) fun j =>
  (cond j
  (k Bool.true [])
  (c_impl_UnpackEvents_0 N s Bool.true (4 : Int) [] fun b3 l1 =>
    (g_impl_PackEvents_w N b3 l1 fun s2 =>
    (cond (!(decide ((s2 = s))))
    (k Bool.true [])
    (k b3 l1))))))
theorem e_impl_UnpackEvents (N : Nat) {R : Type} (s : ByteArray) (K : AV → Hp E → Option R) :
    runFnI (E := E) (O_impl_UnpackEvents N) (IT_impl_UnpackEvents_0 N) sl_impl_UnpackEvents J_impl_UnpackEvents Go.Proofs.Try.f50 [(Go.Eng.AV.sc (Go.Eng.SV.str s))] [] K =
      g_impl_UnpackEvents N s (fun b4 l2 => K (Go.Eng.AV.sc (Go.Eng.SV.slc 0 Option.none b4)) [(Option.some (Go.Eng.HE.mk Bool.false (Go.Eng.HB.rows (Go.Sa.B.iEvent l2))))]) := by kernel_rfl
def o_impl_UnpackEvents (N : Nat) {R : Type} (args : List AV) (H : Hp E) (K : AV → Hp E → Option R) : Option R :=
  match args, H with
  | [(Go.Eng.AV.sc (Go.Eng.SV.str s))], [] => g_impl_UnpackEvents N s (fun b4 l2 => K (Go.Eng.AV.sc (Go.Eng.SV.slc 0 Option.none b4)) [(Option.some (Go.Eng.HE.mk Bool.false (Go.Eng.HB.rows (Go.Sa.B.iEvent l2))))])
  | _, _ => none
theorem o_impl_UnpackEvents_ok (N : Nat) : FnOk E 50 (o_impl_UnpackEvents N) := by
  intro R args H K r h
  unfold o_impl_UnpackEvents at h
  dsimp only at h
  split at h
  · exact fnB_ok (ids := [0]) (top := [0]) ok (O_impl_UnpackEvents_ok N) (jn_ok _ _ _) Go.Proofs.Try.func50 (by kernel_rfl) (IT := IT_impl_UnpackEvents_0 N) (sl := sl_impl_UnpackEvents) (J := J_impl_UnpackEvents) (K := K) (H := []) (IT_impl_UnpackEvents_0_ok N) (by kernel_rfl) rfl ((e_impl_UnpackEvents N _ K).trans h)
  · cases h
/-! ### loop.example/g00038/laws.eqEvent -/
abbrev sl_laws_eqEvent : SlotT := []
abbrev J_laws_eqEvent : JT := jn [] [] []
noncomputable def O_laws_eqEvent (N : Nat) : Orc E := noFn
theorem O_laws_eqEvent_ok (N : Nat) : OrcOk (O_laws_eqEvent N) := noFn_ok
def g_laws_eqEvent (N : Nat) {R : Type} (n : Int) (n1 : Int) (n2 : Int) (n3 : Int) (n4 : Int) (n5 : Int) (n6 : Int) (n7 : Int) (k : Bool → Option R) : Option R :=
  (cond (n != n4)
  (k Bool.false)
  (cond (n1 != n5)
    (k Bool.false)
    (cond (n2 != n6)
      (k Bool.false)
      (cond (n3 != n7)
        (k Bool.false)
        (k Bool.true)))))
theorem e_laws_eqEvent (N : Nat) {R : Type} (n : Int) (n1 : Int) (n2 : Int) (n3 : Int) (n4 : Int) (n5 : Int) (n6 : Int) (n7 : Int) (K : AV → Hp E → Option R) :
    runFnI (E := E) (O_laws_eqEvent N) (noIt) sl_laws_eqEvent J_laws_eqEvent Go.Proofs.Try.f128 [(Go.Eng.AV.agg [(Go.Eng.SV.int Go.IntKind.i64 n), (Go.Eng.SV.int Go.IntKind.i64 n1), (Go.Eng.SV.int Go.IntKind.i64 n2), (Go.Eng.SV.int Go.IntKind.i64 n3)]), (Go.Eng.AV.agg [(Go.Eng.SV.int Go.IntKind.i64 n4), (Go.Eng.SV.int Go.IntKind.i64 n5), (Go.Eng.SV.int Go.IntKind.i64 n6), (Go.Eng.SV.int Go.IntKind.i64 n7)])] [] K =
      g_laws_eqEvent N n n1 n2 n3 n4 n5 n6 n7 (fun b => K (Go.Eng.AV.sc (Go.Eng.SV.bool b)) []) := by kernel_rfl
def o_laws_eqEvent (N : Nat) {R : Type} (args : List AV) (H : Hp E) (K : AV → Hp E → Option R) : Option R :=
  match args, H with
  | [(Go.Eng.AV.agg [(Go.Eng.SV.int Go.IntKind.i64 n), (Go.Eng.SV.int Go.IntKind.i64 n1), (Go.Eng.SV.int Go.IntKind.i64 n2), (Go.Eng.SV.int Go.IntKind.i64 n3)]), (Go.Eng.AV.agg [(Go.Eng.SV.int Go.IntKind.i64 n4), (Go.Eng.SV.int Go.IntKind.i64 n5), (Go.Eng.SV.int Go.IntKind.i64 n6), (Go.Eng.SV.int Go.IntKind.i64 n7)])], [] => g_laws_eqEvent N n n1 n2 n3 n4 n5 n6 n7 (fun b => K (Go.Eng.AV.sc (Go.Eng.SV.bool b)) [])
  | _, _ => none
theorem o_laws_eqEvent_ok (N : Nat) : FnOk E 128 (o_laws_eqEvent N) := by
  intro R args H K r h
  unfold o_laws_eqEvent at h
  dsimp only at h
  split at h
  · exact fnB_ok (ids := []) (top := []) ok (O_laws_eqEvent_ok N) (jn_ok _ _ _) Go.Proofs.Try.func128 (by kernel_rfl) (IT := noIt) (sl := sl_laws_eqEvent) (J := J_laws_eqEvent) (K := K) (H := []) (noIt_ok) (by kernel_rfl) rfl ((e_laws_eqEvent N _ _ _ _ _ _ _ _ K).trans h)
  · cases h
/-! ### loop.example/g00038/laws.eqEventS -/
abbrev sl_laws_eqEventS_ww : SlotT := [(0, ([0, 1, 5], [4]))]
abbrev J_laws_eqEventS_ww : JT := jn [] [] []
noncomputable def O_laws_eqEventS_ww (N : Nat) : Orc E := addFn 128 (o_laws_eqEvent N) (noFn)
theorem O_laws_eqEventS_ww_ok (N : Nat) : OrcOk (O_laws_eqEventS_ww N) := addFn_ok (o_laws_eqEvent_ok N) (noFn_ok)
def s_laws_eqEventS_ww_0 (N : Nat) {R : Type} (b2 : Bool) (b3 : Bool) (l2 : List Go.Sa.Event) (l3 : List Go.Sa.Event) (n : Int) (ag : Int → Option R)  (kR : Option R) (kN : Option R) : Option R :=
  (cond (decide ((n < (((List.length l2) : Nat) : Int))))
  (cond ((decide (((0 : Int) ≤ n))) && (decide ((n < (((List.length l2) : Nat) : Int)))))
    (elemK l2 (Int.toNat n) fun x =>
      (cond ((decide (((0 : Int) ≤ n))) && (decide ((n < (((List.length l3) : Nat) : Int)))))
      (elemK l3 (Int.toNat n) fun x1 =>
        (g_laws_eqEvent N (Go.Sa.Event.fAt x) (Go.Sa.Event.fKind x) (Go.Sa.Event.fNum x) (Go.Sa.Event.fValue x) (Go.Sa.Event.fAt x1) (Go.Sa.Event.fKind x1) (Go.Sa.Event.fNum x1) (Go.Sa.Event.fValue x1) fun b4 =>
        (cond (!b4)
        kR
        (ag (Go.IntKind.wrap Go.IntKind.i64 (n + (1 : Int)))))))
      none))
    none)
  kN)
def l_laws_eqEventS_ww_0 (N : Nat) {R : Type} (b2 : Bool) (b3 : Bool) (l2 : List Go.Sa.Event) (l3 : List Go.Sa.Event) (kR : Option R) (kN : Option R) : Nat → Int → Option R
  | 0, _ => none
  | f + 1, n => s_laws_eqEventS_ww_0 N b2 b3 l2 l3 n (fun n => l_laws_eqEventS_ww_0 N b2 b3 l2 l3 kR kN f n)  kR kN
def c_laws_eqEventS_ww_0 (N : Nat) {R : Type} (b2 : Bool) (b3 : Bool) (l2 : List Go.Sa.Event) (l3 : List Go.Sa.Event) (n : Int) (kR : Option R) (kN : Option R) : Option R := l_laws_eqEventS_ww_0 N b2 b3 l2 l3 kR kN N n
theorem se_laws_eqEventS_ww_0 (N : Nat) {R : Type} (b2 : Bool) (b3 : Bool) (l2 : List Go.Sa.Event) (l3 : List Go.Sa.Event) (n : Int) (AG : List (Option AV) → Hp E → Option R) (KL : Ex → List (Option AV) → Hp E → Option R) :
    iterStep (E := E) (O_laws_eqEventS_ww N) (fun {R} => LI (noIt) 2 27 sl_laws_eqEventS_ww (R := R)) J_laws_eqEventS_ww 2 27 0 [0, 1, 5] [4] (body Go.Proofs.Try.f51 0) AG KL [(Option.some (Go.Eng.AV.sc (Go.Eng.SV.slc 0 Option.none b2))), (Option.some (Go.Eng.AV.sc (Go.Eng.SV.slc 1 Option.none b3))), (Option.some (Go.Eng.AV.sc (Go.Eng.SV.int Go.IntKind.i64 n)))] [(Option.some (Go.Eng.HE.mk Bool.false (Go.Eng.HB.rows (Go.Sa.B.iEvent l2)))), (Option.some (Go.Eng.HE.mk Bool.false (Go.Eng.HB.rows (Go.Sa.B.iEvent l3))))] =
      s_laws_eqEventS_ww_0 N b2 b3 l2 l3 n (fun n => AG [(Option.some (Go.Eng.AV.sc (Go.Eng.SV.slc 0 Option.none b2))), (Option.some (Go.Eng.AV.sc (Go.Eng.SV.slc 1 Option.none b3))), (Option.some (Go.Eng.AV.sc (Go.Eng.SV.int Go.IntKind.i64 n)))] [(Option.some (Go.Eng.HE.mk Bool.false (Go.Eng.HB.rows (Go.Sa.B.iEvent l2)))), (Option.some (Go.Eng.HE.mk Bool.false (Go.Eng.HB.rows (Go.Sa.B.iEvent l3))))])  (KL Go.Eng.Ex.ret [(Option.some (Go.Eng.AV.sc (Go.Eng.SV.bool Bool.false)))] [(Option.some (Go.Eng.HE.mk Bool.false (Go.Eng.HB.rows (Go.Sa.B.iEvent l2)))), (Option.some (Go.Eng.HE.mk Bool.false (Go.Eng.HB.rows (Go.Sa.B.iEvent l3))))]) (KL Go.Eng.Ex.normal [Option.none] [(Option.some (Go.Eng.HE.mk Bool.false (Go.Eng.HB.rows (Go.Sa.B.iEvent l2)))), (Option.some (Go.Eng.HE.mk Bool.false (Go.Eng.HB.rows (Go.Sa.B.iEvent l3))))]) := by kernel_rfl
theorem le_laws_eqEventS_ww_0 (N : Nat) {R : Type} (b2 : Bool) (b3 : Bool) (l2 : List Go.Sa.Event) (l3 : List Go.Sa.Event) (KL : Ex → List (Option AV) → Hp E → Option R) : ∀ (f : Nat), ∀ (n : Int), iterK (E := E) (O_laws_eqEventS_ww N) (fun {R} => LI (noIt) 2 27 sl_laws_eqEventS_ww (R := R)) J_laws_eqEventS_ww 2 27 0 [0, 1, 5] [4] (body Go.Proofs.Try.f51 0) f [(Option.some (Go.Eng.AV.sc (Go.Eng.SV.slc 0 Option.none b2))), (Option.some (Go.Eng.AV.sc (Go.Eng.SV.slc 1 Option.none b3))), (Option.some (Go.Eng.AV.sc (Go.Eng.SV.int Go.IntKind.i64 n)))] [(Option.some (Go.Eng.HE.mk Bool.false (Go.Eng.HB.rows (Go.Sa.B.iEvent l2)))), (Option.some (Go.Eng.HE.mk Bool.false (Go.Eng.HB.rows (Go.Sa.B.iEvent l3))))] KL = l_laws_eqEventS_ww_0 N b2 b3 l2 l3 (KL Go.Eng.Ex.ret [(Option.some (Go.Eng.AV.sc (Go.Eng.SV.bool Bool.false)))] [(Option.some (Go.Eng.HE.mk Bool.false (Go.Eng.HB.rows (Go.Sa.B.iEvent l2)))), (Option.some (Go.Eng.HE.mk Bool.false (Go.Eng.HB.rows (Go.Sa.B.iEvent l3))))]) (KL Go.Eng.Ex.normal [Option.none] [(Option.some (Go.Eng.HE.mk Bool.false (Go.Eng.HB.rows (Go.Sa.B.iEvent l2)))), (Option.some (Go.Eng.HE.mk Bool.false (Go.Eng.HB.rows (Go.Sa.B.iEvent l3))))]) f n := by
  intro f
  induction f with
  | zero => intros; rfl
  | succ f ih =>
    intro n
    rw [iterK_succ, se_laws_eqEventS_ww_0]
    exact (congrArg (fun z0 => s_laws_eqEventS_ww_0 N b2 b3 l2 l3 n z0 (KL Go.Eng.Ex.ret [(Option.some (Go.Eng.AV.sc (Go.Eng.SV.bool Bool.false)))] [(Option.some (Go.Eng.HE.mk Bool.false (Go.Eng.HB.rows (Go.Sa.B.iEvent l2)))), (Option.some (Go.Eng.HE.mk Bool.false (Go.Eng.HB.rows (Go.Sa.B.iEvent l3))))]) (KL Go.Eng.Ex.normal [Option.none] [(Option.some (Go.Eng.HE.mk Bool.false (Go.Eng.HB.rows (Go.Sa.B.iEvent l2)))), (Option.some (Go.Eng.HE.mk Bool.false (Go.Eng.HB.rows (Go.Sa.B.iEvent l3))))])) (funext fun n => ih n))
def i_laws_eqEventS_ww_0 (N : Nat) {R : Type} (vs : List (Option AV)) (H : Hp E) (KL : Ex → List (Option AV) → Hp E → Option R) : Option R :=
  match vs, H with
  | [(Option.some (Go.Eng.AV.sc (Go.Eng.SV.slc 0 Option.none b2))), (Option.some (Go.Eng.AV.sc (Go.Eng.SV.slc 1 Option.none b3))), (Option.some (Go.Eng.AV.sc (Go.Eng.SV.int Go.IntKind.i64 n)))], [(Option.some (Go.Eng.HE.mk Bool.false (Go.Eng.HB.rows (Go.Sa.B.iEvent l2)))), (Option.some (Go.Eng.HE.mk Bool.false (Go.Eng.HB.rows (Go.Sa.B.iEvent l3))))] => c_laws_eqEventS_ww_0 N b2 b3 l2 l3 n (KL Go.Eng.Ex.ret [(Option.some (Go.Eng.AV.sc (Go.Eng.SV.bool Bool.false)))] [(Option.some (Go.Eng.HE.mk Bool.false (Go.Eng.HB.rows (Go.Sa.B.iEvent l2)))), (Option.some (Go.Eng.HE.mk Bool.false (Go.Eng.HB.rows (Go.Sa.B.iEvent l3))))]) (KL Go.Eng.Ex.normal [Option.none] [(Option.some (Go.Eng.HE.mk Bool.false (Go.Eng.HB.rows (Go.Sa.B.iEvent l2)))), (Option.some (Go.Eng.HE.mk Bool.false (Go.Eng.HB.rows (Go.Sa.B.iEvent l3))))])
  | _, _ => none
noncomputable def IT_laws_eqEventS_ww_0 (N : Nat) : Its E := addIt 0 (i_laws_eqEventS_ww_0 N) (noIt)
theorem IT_laws_eqEventS_ww_0_ok (N : Nat) : ItOk (IT_laws_eqEventS_ww_0 N) 2 27 sl_laws_eqEventS_ww (lsB Go.Proofs.Try.f51 [0]) :=
  addItB_ok (inner := []) ok (O_laws_eqEventS_ww_ok N) (jn_ok _ _ _) (noIt_ok) rfl (by kernel_rfl) rfl fun vs H KL r h => by
    unfold i_laws_eqEventS_ww_0 at h
    split at h
    · exact ⟨_, (le_laws_eqEventS_ww_0 N _ _ _ _ KL N _).trans h⟩
    · cases h
def g_laws_eqEventS_ww (N : Nat) {R : Type} (b : Bool) (b1 : Bool) (l : List Go.Sa.Event) (l1 : List Go.Sa.Event) (k : Bool → Option R) : Option R :=
  (cond ((((List.length l) : Nat) : Int) != (((List.length l1) : Nat) : Int))
  (k Bool.false)
  (c_laws_eqEventS_ww_0 N b b1 l l1 (0 : Int) (
    (k Bool.false)) (
    (k Bool.true))))
theorem e_laws_eqEventS_ww (N : Nat) {R : Type} (b : Bool) (b1 : Bool) (l : List Go.Sa.Event) (l1 : List Go.Sa.Event) (K : AV → Hp E → Option R) :
    runFnI (E := E) (O_laws_eqEventS_ww N) (IT_laws_eqEventS_ww_0 N) sl_laws_eqEventS_ww J_laws_eqEventS_ww Go.Proofs.Try.f51 [(Go.Eng.AV.sc (Go.Eng.SV.slc 0 Option.none b)), (Go.Eng.AV.sc (Go.Eng.SV.slc 1 Option.none b1))] [(Option.some (Go.Eng.HE.mk Bool.false (Go.Eng.HB.rows (Go.Sa.B.iEvent l)))), (Option.some (Go.Eng.HE.mk Bool.false (Go.Eng.HB.rows (Go.Sa.B.iEvent l1))))] K =
      g_laws_eqEventS_ww N b b1 l l1 (fun b5 => K (Go.Eng.AV.sc (Go.Eng.SV.bool b5)) [(Option.some (Go.Eng.HE.mk Bool.false (Go.Eng.HB.rows (Go.Sa.B.iEvent l)))), (Option.some (Go.Eng.HE.mk Bool.false (Go.Eng.HB.rows (Go.Sa.B.iEvent l1))))]) := by kernel_rfl
def o_laws_eqEventS_ww (N : Nat) {R : Type} (args : List AV) (H : Hp E) (K : AV → Hp E → Option R) : Option R :=
  match args, H with
  | [(Go.Eng.AV.sc (Go.Eng.SV.slc 0 Option.none b)), (Go.Eng.AV.sc (Go.Eng.SV.slc 1 Option.none b1))], [(Option.some (Go.Eng.HE.mk Bool.false (Go.Eng.HB.rows (Go.Sa.B.iEvent l)))), (Option.some (Go.Eng.HE.mk Bool.false (Go.Eng.HB.rows (Go.Sa.B.iEvent l1))))] => g_laws_eqEventS_ww N b b1 l l1 (fun b5 => K (Go.Eng.AV.sc (Go.Eng.SV.bool b5)) [(Option.some (Go.Eng.HE.mk Bool.false (Go.Eng.HB.rows (Go.Sa.B.iEvent l)))), (Option.some (Go.Eng.HE.mk Bool.false (Go.Eng.HB.rows (Go.Sa.B.iEvent l1))))])
  | _, _ => none
theorem o_laws_eqEventS_ww_ok (N : Nat) : FnOk E 51 (o_laws_eqEventS_ww N) := by
  intro R args H K r h
  unfold o_laws_eqEventS_ww at h
  dsimp only at h
  split at h
  · exact fnB_ok (ids := [0]) (top := [0]) ok (O_laws_eqEventS_ww_ok N) (jn_ok _ _ _) Go.Proofs.Try.func51 (by kernel_rfl) (IT := IT_laws_eqEventS_ww_0 N) (sl := sl_laws_eqEventS_ww) (J := J_laws_eqEventS_ww) (K := K) (H := [(Option.some (Go.Eng.HE.mk Bool.false (Go.Eng.HB.rows (Go.Sa.B.iEvent _)))), (Option.some (Go.Eng.HE.mk Bool.false (Go.Eng.HB.rows (Go.Sa.B.iEvent _))))]) (IT_laws_eqEventS_ww_0_ok N) (by kernel_rfl) rfl ((e_laws_eqEventS_ww N _ _ _ _ K).trans h)
  · cases h
end Go.Sa
