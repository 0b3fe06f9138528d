import Derived.Test.YtmmgjioemnhoaaaSpec
import Derived.Test.YtmmgjioemnhoaaaPLb
import Derived.Test.YtmmgjioemnhoaaaW2
set_option linter.all false
namespace Go.Sa
open Go Go.Eng Go.Proofs
set_option maxRecDepth 100000
/-! ### loop.example/g00038/spec.l15Regs -/
abbrev sl_spec_l15Regs_r : SlotT := []
abbrev J_spec_l15Regs_r : JT := jn [(1, [(2, .b)])] [] []
noncomputable def O_spec_l15Regs_r (N : Nat) : Orc E := addFn 112 (o_spec_l04Words_r N) (noFn)
theorem O_spec_l15Regs_r_ok (N : Nat) : OrcOk (O_spec_l15Regs_r N) := addFn_ok (o_spec_l04Words_r_ok N) (noFn_ok)
def g_spec_l15Regs_r (N : Nat) {R : Type} (b : Bool) (l : List Int) (k : Bool → Option R) : Option R :=
  (oK (cond (decide (((((List.length l) : Nat) : Int) ≥ (1 : Int))))
    (cond (decide (((((List.length l) : Nat) : Int) ≤ (8 : Int))))
      (g_spec_l04Words_r N b (((List.length l) : Nat) : Int) l fun b1 =>
        (some b1))
      (some Bool.false))
    (some Bool.false)) fun j =>
  (k j))
theorem e_spec_l15Regs_r (N : Nat) {R : Type} (b : Bool) (l : List Int) (K : AV → Hp E → Option R) :
    runFnI (E := E) (O_spec_l15Regs_r N) (noIt) sl_spec_l15Regs_r J_spec_l15Regs_r Go.Proofs.Try.f73 [(Go.Eng.AV.sc (Go.Eng.SV.slc 0 Option.none b))] [(Option.some (Go.Eng.HE.mk Bool.true (Go.Eng.HB.rows (Go.Sa.B.i64 l))))] K =
      g_spec_l15Regs_r N b l (fun b2 => K (Go.Eng.AV.sc (Go.Eng.SV.bool b2)) [(Option.some (Go.Eng.HE.mk Bool.true (Go.Eng.HB.rows (Go.Sa.B.i64 l))))]) := by kernel_rfl
def o_spec_l15Regs_r (N : Nat) {R : Type} (args : List AV) (H : Hp E) (K : AV → Hp E → Option R) : Option R :=
  match args, H with
  | [(Go.Eng.AV.sc (Go.Eng.SV.slc 0 Option.none b))], [(Option.some (Go.Eng.HE.mk Bool.true (Go.Eng.HB.rows (Go.Sa.B.i64 l))))] => g_spec_l15Regs_r N b l (fun b2 => K (Go.Eng.AV.sc (Go.Eng.SV.bool b2)) [(Option.some (Go.Eng.HE.mk Bool.true (Go.Eng.HB.rows (Go.Sa.B.i64 l))))])
  | _, _ => none
theorem o_spec_l15Regs_r_ok (N : Nat) : FnOk E 73 (o_spec_l15Regs_r N) := by
  intro R args H K r h
  unfold o_spec_l15Regs_r at h
  dsimp only at h
  split at h
  · exact fnB_ok (ids := []) (top := []) ok (O_spec_l15Regs_r_ok N) (jn_ok _ _ _) Go.Proofs.Try.func73 (by kernel_rfl) (IT := noIt) (sl := sl_spec_l15Regs_r) (J := J_spec_l15Regs_r) (K := K) (H := [(Option.some (Go.Eng.HE.mk Bool.true (Go.Eng.HB.rows (Go.Sa.B.i64 _))))]) (noIt_ok) (by kernel_rfl) rfl ((e_spec_l15Regs_r N _ _ K).trans h)
  · cases h
/-! ### loop.example/g00038/spec.l15Mask -/
abbrev sl_spec_l15Mask_w : SlotT := []
abbrev J_spec_l15Mask_w : JT := jn [(1, [(4, .b)])] [] []
noncomputable def O_spec_l15Mask_w (N : Nat) : Orc E := addFn 73 (o_spec_l15Regs_r N) (noFn)
theorem O_spec_l15Mask_w_ok (N : Nat) : OrcOk (O_spec_l15Mask_w N) := addFn_ok (o_spec_l15Regs_r_ok N) (noFn_ok)
def g_spec_l15Mask_w (N : Nat) {R : Type} (b : Bool) (n : Int) (l : List Int) (k : Bool → Option R) : Option R :=
  (oK (g_spec_l15Regs_r N b l fun b1 =>
    (cond b1
    (cond (decide ((n ≥ (0 : Int))))
      (some (decide ((n < (Go.IntKind.wrap Go.IntKind.i64 ((1 : Int) * ((2 : Int) ^ (Min.min (Int.toNat (Go.IntKind.wrap Go.IntKind.u64 (((List.length l) : Nat) : Int))) 64))))))))
      (some Bool.false))
    (some Bool.false))) fun j =>
  (k j))
theorem e_spec_l15Mask_w (N : Nat) {R : Type} (b : Bool) (n : Int) (l : List Int) (K : AV → Hp E → Option R) :
    runFnI (E := E) (O_spec_l15Mask_w N) (noIt) sl_spec_l15Mask_w J_spec_l15Mask_w Go.Proofs.Try.f54 [(Go.Eng.AV.sc (Go.Eng.SV.slc 0 Option.none b)), (Go.Eng.AV.sc (Go.Eng.SV.int Go.IntKind.i64 n))] [(Option.some (Go.Eng.HE.mk Bool.false (Go.Eng.HB.rows (Go.Sa.B.i64 l))))] K =
      g_spec_l15Mask_w N b n l (fun b2 => K (Go.Eng.AV.sc (Go.Eng.SV.bool b2)) [(Option.some (Go.Eng.HE.mk Bool.false (Go.Eng.HB.rows (Go.Sa.B.i64 l))))]) := by kernel_rfl
def o_spec_l15Mask_w (N : Nat) {R : Type} (args : List AV) (H : Hp E) (K : AV → Hp E → Option R) : Option R :=
  match args, H with
  | [(Go.Eng.AV.sc (Go.Eng.SV.slc 0 Option.none b)), (Go.Eng.AV.sc (Go.Eng.SV.int Go.IntKind.i64 n))], [(Option.some (Go.Eng.HE.mk Bool.false (Go.Eng.HB.rows (Go.Sa.B.i64 l))))] => g_spec_l15Mask_w N b n l (fun b2 => K (Go.Eng.AV.sc (Go.Eng.SV.bool b2)) [(Option.some (Go.Eng.HE.mk Bool.false (Go.Eng.HB.rows (Go.Sa.B.i64 l))))])
  | _, _ => none
theorem o_spec_l15Mask_w_ok (N : Nat) : FnOk E 54 (o_spec_l15Mask_w N) := by
  intro R args H K r h
  unfold o_spec_l15Mask_w at h
  dsimp only at h
  split at h
  · exact fnB_ok (ids := []) (top := []) ok (O_spec_l15Mask_w_ok N) (jn_ok _ _ _) Go.Proofs.Try.func54 (by kernel_rfl) (IT := noIt) (sl := sl_spec_l15Mask_w) (J := J_spec_l15Mask_w) (K := K) (H := [(Option.some (Go.Eng.HE.mk Bool.false (Go.Eng.HB.rows (Go.Sa.B.i64 _))))]) (noIt_ok) (by kernel_rfl) rfl ((e_spec_l15Mask_w N _ _ _ K).trans h)
  · cases h
/-! ### loop.example/g00038/spec.PutWord -/
abbrev sl_spec_PutWord : SlotT := []
abbrev J_spec_PutWord : JT := jn [] [] []
noncomputable def O_spec_PutWord (N : Nat) : Orc E := addFn 107 (o_spec_Word N) (noFn)
theorem O_spec_PutWord_ok (N : Nat) : OrcOk (O_spec_PutWord N) := addFn_ok (o_spec_Word_ok N) (noFn_ok)
def g_spec_PutWord (N : Nat) {R : Type} (n : Int) (k : ByteArray → Option R) : Option R :=
  (g_spec_Word N n fun n1 =>
  (k (Go.Eng.toBytes (Go.Eng.seg [(Go.IntKind.wrap Go.IntKind.u8 n1), (Go.IntKind.wrap Go.IntKind.u8 (Int.fdiv n1 (256 : Int))), (Go.IntKind.wrap Go.IntKind.u8 (Int.fdiv n1 (65536 : Int))), (Go.IntKind.wrap Go.IntKind.u8 (Int.fdiv n1 (16777216 : Int)))] 0 (List.length [(Go.IntKind.wrap Go.IntKind.u8 n1), (Go.IntKind.wrap Go.IntKind.u8 (Int.fdiv n1 (256 : Int))), (Go.IntKind.wrap Go.IntKind.u8 (Int.fdiv n1 (65536 : Int))), (Go.IntKind.wrap Go.IntKind.u8 (Int.fdiv n1 (16777216 : Int)))])))))
theorem e_spec_PutWord (N : Nat) {R : Type} (n : Int) (K : AV → Hp E → Option R) :
    runFnI (E := E) (O_spec_PutWord N) (noIt) sl_spec_PutWord J_spec_PutWord Go.Proofs.Try.f93 [(Go.Eng.AV.sc (Go.Eng.SV.int Go.IntKind.i64 n))] [] K =
      g_spec_PutWord N n (fun s => K (Go.Eng.AV.sc (Go.Eng.SV.str s)) []) := by kernel_rfl
def o_spec_PutWord (N : Nat) {R : Type} (args : List AV) (H : Hp E) (K : AV → Hp E → Option R) : Option R :=
  match args, H with
  | [(Go.Eng.AV.sc (Go.Eng.SV.int Go.IntKind.i64 n))], [] => g_spec_PutWord N n (fun s => K (Go.Eng.AV.sc (Go.Eng.SV.str s)) [])
  | _, _ => none
theorem o_spec_PutWord_ok (N : Nat) : FnOk E 93 (o_spec_PutWord N) := by
  intro R args H K r h
  unfold o_spec_PutWord at h
  dsimp only at h
  split at h
  · exact fnB_ok (ids := []) (top := []) ok (O_spec_PutWord_ok N) (jn_ok _ _ _) Go.Proofs.Try.func93 (by kernel_rfl) (IT := noIt) (sl := sl_spec_PutWord) (J := J_spec_PutWord) (K := K) (H := []) (noIt_ok) (by kernel_rfl) rfl ((e_spec_PutWord N _ K).trans h)
  · cases h
/-! ### loop.example/g00038/spec.l15Key -/
abbrev sl_spec_l15Key_w : SlotT := [(0, ([0, 1, 2, 7], [0]))]
abbrev J_spec_l15Key_w : JT := jn [] [(19, [(0, .s)])] []
noncomputable def O_spec_l15Key_w (N : Nat) : Orc E := addFn 93 (o_spec_PutWord N) (noFn)
theorem O_spec_l15Key_w_ok (N : Nat) : OrcOk (O_spec_l15Key_w N) := addFn_ok (o_spec_PutWord_ok N) (noFn_ok)
def s_spec_l15Key_w_0 (N : Nat) {R : Type} (b1 : Bool) (n1 : Int) (l1 : List Int) (s1 : ByteArray) (n2 : Int) (ag : ByteArray → Int → Option R)  (kN : ByteArray → Option R) : Option R :=
  (cond (decide ((n2 < (((List.length l1) : Nat) : Int))))
  (cond (decide (((Go.IntKind.wrap Go.IntKind.u64 n2) < (0 : Int))))
    none
    (oK (cond ((Go.IntKind.wrap Go.IntKind.i64 (((BitVec.toNat ((BitVec.ofInt 64 (Int.fdiv n1 ((2 : Int) ^ (Min.min (Int.toNat (Go.IntKind.wrap Go.IntKind.u64 n2)) 64)))) &&& (BitVec.ofInt 64 (1 : Int)))) : Nat) : Int)) == (1 : Int))
        (g_spec_PutWord N n2 fun s2 =>
          (cond (Nat.ble ((ByteArray.size s1) + (ByteArray.size s2)) 9223372036854775807)
          (cond ((decide (((0 : Int) ≤ n2))) && (decide ((n2 < (((List.length l1) : Nat) : Int)))))
            (elemK l1 (Int.toNat n2) fun x =>
              (g_spec_PutWord N x fun s3 =>
              (cond (Nat.ble ((ByteArray.size (s1 ++ s2)) + (ByteArray.size s3)) 9223372036854775807)
              (some ((s1 ++ s2) ++ s3))
              none)))
            none)
          none))
        (some s1)) fun j =>
      (ag j (Go.IntKind.wrap Go.IntKind.i64 (n2 + (1 : Int))))))
  (kN s1))
def l_spec_l15Key_w_0 (N : Nat) {R : Type} (b1 : Bool) (n1 : Int) (l1 : List Int) (kN : ByteArray → Option R) : Nat → ByteArray → Int → Option R
  | 0, _, _ => none
  | f + 1, s1, n2 => s_spec_l15Key_w_0 N b1 n1 l1 s1 n2 (fun s1 n2 => l_spec_l15Key_w_0 N b1 n1 l1 kN f s1 n2)  kN
def c_spec_l15Key_w_0 (N : Nat) {R : Type} (b1 : Bool) (n1 : Int) (l1 : List Int) (s1 : ByteArray) (n2 : Int) (kN : ByteArray → Option R) : Option R := l_spec_l15Key_w_0 N b1 n1 l1 kN N s1 n2
theorem se_spec_l15Key_w_0 (N : Nat) {R : Type} (b1 : Bool) (n1 : Int) (l1 : List Int) (s1 : ByteArray) (n2 : Int) (AG : List (Option AV) → Hp E → Option R) (KL : Ex → List (Option AV) → Hp E → Option R) :
    iterStep (E := E) (O_spec_l15Key_w N) (fun {R} => LI (noIt) 1 31 sl_spec_l15Key_w (R := R)) J_spec_l15Key_w 1 31 0 [0, 1, 2, 7] [0] (body Go.Proofs.Try.f55 0) AG KL [(Option.some (Go.Eng.AV.sc (Go.Eng.SV.str s1))), (Option.some (Go.Eng.AV.sc (Go.Eng.SV.slc 0 Option.none b1))), (Option.some (Go.Eng.AV.sc (Go.Eng.SV.int Go.IntKind.i64 n1))), (Option.some (Go.Eng.AV.sc (Go.Eng.SV.int Go.IntKind.i64 n2)))] [(Option.some (Go.Eng.HE.mk Bool.false (Go.Eng.HB.rows (Go.Sa.B.i64 l1))))] =
      s_spec_l15Key_w_0 N b1 n1 l1 s1 n2 (fun s1 n2 => AG [(Option.some (Go.Eng.AV.sc (Go.Eng.SV.str s1))), (Option.some (Go.Eng.AV.sc (Go.Eng.SV.slc 0 Option.none b1))), (Option.some (Go.Eng.AV.sc (Go.Eng.SV.int Go.IntKind.i64 n1))), (Option.some (Go.Eng.AV.sc (Go.Eng.SV.int Go.IntKind.i64 n2)))] [(Option.some (Go.Eng.HE.mk Bool.false (Go.Eng.HB.rows (Go.Sa.B.i64 l1))))])  (fun s6 => KL Go.Eng.Ex.normal [(Option.some (Go.Eng.AV.sc (Go.Eng.SV.str s6)))] [(Option.some (Go.Eng.HE.mk Bool.false (Go.Eng.HB.rows (Go.Sa.B.i64 l1))))]) := by kernel_rfl
theorem le_spec_l15Key_w_0 (N : Nat) {R : Type} (b1 : Bool) (n1 : Int) (l1 : List Int) (KL : Ex → List (Option AV) → Hp E → Option R) : ∀ (f : Nat), ∀ (s1 : ByteArray) (n2 : Int), iterK (E := E) (O_spec_l15Key_w N) (fun {R} => LI (noIt) 1 31 sl_spec_l15Key_w (R := R)) J_spec_l15Key_w 1 31 0 [0, 1, 2, 7] [0] (body Go.Proofs.Try.f55 0) f [(Option.some (Go.Eng.AV.sc (Go.Eng.SV.str s1))), (Option.some (Go.Eng.AV.sc (Go.Eng.SV.slc 0 Option.none b1))), (Option.some (Go.Eng.AV.sc (Go.Eng.SV.int Go.IntKind.i64 n1))), (Option.some (Go.Eng.AV.sc (Go.Eng.SV.int Go.IntKind.i64 n2)))] [(Option.some (Go.Eng.HE.mk Bool.false (Go.Eng.HB.rows (Go.Sa.B.i64 l1))))] KL = l_spec_l15Key_w_0 N b1 n1 l1 (fun s6 => KL Go.Eng.Ex.normal [(Option.some (Go.Eng.AV.sc (Go.Eng.SV.str s6)))] [(Option.some (Go.Eng.HE.mk Bool.false (Go.Eng.HB.rows (Go.Sa.B.i64 l1))))]) f s1 n2 := by
  intro f
  induction f with
  | zero => intros; rfl
  | succ f ih =>
    intro s1 n2
    rw [iterK_succ, se_spec_l15Key_w_0]
    exact (congrArg (fun z0 => s_spec_l15Key_w_0 N b1 n1 l1 s1 n2 z0 (fun s6 => KL Go.Eng.Ex.normal [(Option.some (Go.Eng.AV.sc (Go.Eng.SV.str s6)))] [(Option.some (Go.Eng.HE.mk Bool.false (Go.Eng.HB.rows (Go.Sa.B.i64 l1))))])) (funext fun s1 => funext fun n2 => ih s1 n2))
def i_spec_l15Key_w_0 (N : Nat) {R : Type} (vs : List (Option AV)) (H : Hp E) (KL : Ex → List (Option AV) → Hp E → Option R) : Option R :=
  match vs, H with
  | [(Option.some (Go.Eng.AV.sc (Go.Eng.SV.str s1))), (Option.some (Go.Eng.AV.sc (Go.Eng.SV.slc 0 Option.none b1))), (Option.some (Go.Eng.AV.sc (Go.Eng.SV.int Go.IntKind.i64 n1))), (Option.some (Go.Eng.AV.sc (Go.Eng.SV.int Go.IntKind.i64 n2)))], [(Option.some (Go.Eng.HE.mk Bool.false (Go.Eng.HB.rows (Go.Sa.B.i64 l1))))] => c_spec_l15Key_w_0 N b1 n1 l1 s1 n2 (fun s7 => KL Go.Eng.Ex.normal [(Option.some (Go.Eng.AV.sc (Go.Eng.SV.str s7)))] [(Option.some (Go.Eng.HE.mk Bool.false (Go.Eng.HB.rows (Go.Sa.B.i64 l1))))])
  | _, _ => none
noncomputable def IT_spec_l15Key_w_0 (N : Nat) : Its E := addIt 0 (i_spec_l15Key_w_0 N) (noIt)
theorem IT_spec_l15Key_w_0_ok (N : Nat) : ItOk (IT_spec_l15Key_w_0 N) 1 31 sl_spec_l15Key_w (lsB Go.Proofs.Try.f55 [0]) :=
  addItB_ok (inner := []) ok (O_spec_l15Key_w_ok N) (jn_ok _ _ _) (noIt_ok) rfl (by kernel_rfl) rfl fun vs H KL r h => by
    unfold i_spec_l15Key_w_0 at h
    split at h
    · exact ⟨_, (le_spec_l15Key_w_0 N _ _ _ KL N _ _).trans h⟩
    · cases h
def g_spec_l15Key_w (N : Nat) {R : Type} (s : ByteArray) (b : Bool) (n : Int) (l : List Int) (k : ByteArray → Option R) : Option R :=
  (c_spec_l15Key_w_0 N b n l s (0 : Int) fun s4 =>
  (k s4))
theorem e_spec_l15Key_w (N : Nat) {R : Type} (s : ByteArray) (b : Bool) (n : Int) (l : List Int) (K : AV → Hp E → Option R) :
    runFnI (E := E) (O_spec_l15Key_w N) (IT_spec_l15Key_w_0 N) sl_spec_l15Key_w J_spec_l15Key_w Go.Proofs.Try.f55 [(Go.Eng.AV.sc (Go.Eng.SV.str s)), (Go.Eng.AV.sc (Go.Eng.SV.slc 0 Option.none b)), (Go.Eng.AV.sc (Go.Eng.SV.int Go.IntKind.i64 n))] [(Option.some (Go.Eng.HE.mk Bool.false (Go.Eng.HB.rows (Go.Sa.B.i64 l))))] K =
      g_spec_l15Key_w N s b n l (fun s5 => K (Go.Eng.AV.sc (Go.Eng.SV.str s5)) [(Option.some (Go.Eng.HE.mk Bool.false (Go.Eng.HB.rows (Go.Sa.B.i64 l))))]) := by kernel_rfl
def o_spec_l15Key_w (N : Nat) {R : Type} (args : List AV) (H : Hp E) (K : AV → Hp E → Option R) : Option R :=
  match args, H with
  | [(Go.Eng.AV.sc (Go.Eng.SV.str s)), (Go.Eng.AV.sc (Go.Eng.SV.slc 0 Option.none b)), (Go.Eng.AV.sc (Go.Eng.SV.int Go.IntKind.i64 n))], [(Option.some (Go.Eng.HE.mk Bool.false (Go.Eng.HB.rows (Go.Sa.B.i64 l))))] => g_spec_l15Key_w N s b n l (fun s5 => K (Go.Eng.AV.sc (Go.Eng.SV.str s5)) [(Option.some (Go.Eng.HE.mk Bool.false (Go.Eng.HB.rows (Go.Sa.B.i64 l))))])
  | _, _ => none
theorem o_spec_l15Key_w_ok (N : Nat) : FnOk E 55 (o_spec_l15Key_w N) := by
  intro R args H K r h
  unfold o_spec_l15Key_w at h
  dsimp only at h
  split at h
  · exact fnB_ok (ids := [0]) (top := [0]) ok (O_spec_l15Key_w_ok N) (jn_ok _ _ _) Go.Proofs.Try.func55 (by kernel_rfl) (IT := IT_spec_l15Key_w_0 N) (sl := sl_spec_l15Key_w) (J := J_spec_l15Key_w) (K := K) (H := [(Option.some (Go.Eng.HE.mk Bool.false (Go.Eng.HB.rows (Go.Sa.B.i64 _))))]) (IT_spec_l15Key_w_0_ok N) (by kernel_rfl) rfl ((e_spec_l15Key_w N _ _ _ _ K).trans h)
  · cases h
/-! ### loop.example/g00038/spec.Mix -/
abbrev sl_spec_Mix : SlotT := [(0, ([0, 5, 6], [5]))]
abbrev J_spec_Mix : JT := jn [] [] []
noncomputable def O_spec_Mix (N : Nat) : Orc E := addFn 113 (o_spec_l01Mod N) (noFn)
theorem O_spec_Mix_ok (N : Nat) : OrcOk (O_spec_Mix N) := addFn_ok (o_spec_l01Mod_ok N) (noFn_ok)
def s_spec_Mix_0 (N : Nat) {R : Type} (s1 : ByteArray) (n2 : Int) (n3 : Int) (ag : Int → Int → Option R)  (kN : Int → Option R) : Option R :=
  (cond (decide ((n3 < (((ByteArray.size s1) : Nat) : Int))))
  (cond ((decide (((0 : Int) ≤ n3))) && (decide ((n3 < (((ByteArray.size s1) : Nat) : Int)))))
    (ag (Int.tmod (Go.IntKind.wrap Go.IntKind.i64 ((Go.IntKind.wrap Go.IntKind.i64 ((Go.IntKind.wrap Go.IntKind.i64 (n2 * (65599 : Int))) + (Go.IntKind.wrap Go.IntKind.i64 (Go.Eng.bt s1 (Int.toNat n3))))) + (1 : Int))) (2147483629 : Int)) (Go.IntKind.wrap Go.IntKind.i64 (n3 + (1 : Int))))
    none)
  (kN n2))
def l_spec_Mix_0 (N : Nat) {R : Type} (s1 : ByteArray) (kN : Int → Option R) : Nat → Int → Int → Option R
  | 0, _, _ => none
  | f + 1, n2, n3 => s_spec_Mix_0 N s1 n2 n3 (fun n2 n3 => l_spec_Mix_0 N s1 kN f n2 n3)  kN
def c_spec_Mix_0 (N : Nat) {R : Type} (s1 : ByteArray) (n2 : Int) (n3 : Int) (kN : Int → Option R) : Option R := l_spec_Mix_0 N s1 kN N n2 n3
theorem se_spec_Mix_0 (N : Nat) {R : Type} (s1 : ByteArray) (n2 : Int) (n3 : Int) (AG : List (Option AV) → Hp E → Option R) (KL : Ex → List (Option AV) → Hp E → Option R) :
    iterStep (E := E) (O_spec_Mix N) (fun {R} => LI (noIt) 0 32 sl_spec_Mix (R := R)) J_spec_Mix 0 32 0 [0, 5, 6] [5] (body Go.Proofs.Try.f74 0) AG KL [(Option.some (Go.Eng.AV.sc (Go.Eng.SV.str s1))), (Option.some (Go.Eng.AV.sc (Go.Eng.SV.int Go.IntKind.i64 n2))), (Option.some (Go.Eng.AV.sc (Go.Eng.SV.int Go.IntKind.i64 n3)))] [] =
      s_spec_Mix_0 N s1 n2 n3 (fun n2 n3 => AG [(Option.some (Go.Eng.AV.sc (Go.Eng.SV.str s1))), (Option.some (Go.Eng.AV.sc (Go.Eng.SV.int Go.IntKind.i64 n2))), (Option.some (Go.Eng.AV.sc (Go.Eng.SV.int Go.IntKind.i64 n3)))] [])  (fun n6 => KL Go.Eng.Ex.normal [(Option.some (Go.Eng.AV.sc (Go.Eng.SV.int Go.IntKind.i64 n6)))] []) := by kernel_rfl
theorem le_spec_Mix_0 (N : Nat) {R : Type} (s1 : ByteArray) (KL : Ex → List (Option AV) → Hp E → Option R) : ∀ (f : Nat), ∀ (n2 : Int) (n3 : Int), iterK (E := E) (O_spec_Mix N) (fun {R} => LI (noIt) 0 32 sl_spec_Mix (R := R)) J_spec_Mix 0 32 0 [0, 5, 6] [5] (body Go.Proofs.Try.f74 0) f [(Option.some (Go.Eng.AV.sc (Go.Eng.SV.str s1))), (Option.some (Go.Eng.AV.sc (Go.Eng.SV.int Go.IntKind.i64 n2))), (Option.some (Go.Eng.AV.sc (Go.Eng.SV.int Go.IntKind.i64 n3)))] [] KL = l_spec_Mix_0 N s1 (fun n6 => KL Go.Eng.Ex.normal [(Option.some (Go.Eng.AV.sc (Go.Eng.SV.int Go.IntKind.i64 n6)))] []) f n2 n3 := by
  intro f
  induction f with
  | zero => intros; rfl
  | succ f ih =>
    intro n2 n3
    rw [iterK_succ, se_spec_Mix_0]
    exact (congrArg (fun z0 => s_spec_Mix_0 N s1 n2 n3 z0 (fun n6 => KL Go.Eng.Ex.normal [(Option.some (Go.Eng.AV.sc (Go.Eng.SV.int Go.IntKind.i64 n6)))] [])) (funext fun n2 => funext fun n3 => ih n2 n3))
def i_spec_Mix_0 (N : Nat) {R : Type} (vs : List (Option AV)) (H : Hp E) (KL : Ex → List (Option AV) → Hp E → Option R) : Option R :=
  match vs, H with
  | [(Option.some (Go.Eng.AV.sc (Go.Eng.SV.str s1))), (Option.some (Go.Eng.AV.sc (Go.Eng.SV.int Go.IntKind.i64 n2))), (Option.some (Go.Eng.AV.sc (Go.Eng.SV.int Go.IntKind.i64 n3)))], [] => c_spec_Mix_0 N s1 n2 n3 (fun n7 => KL Go.Eng.Ex.normal [(Option.some (Go.Eng.AV.sc (Go.Eng.SV.int Go.IntKind.i64 n7)))] [])
  | _, _ => none
noncomputable def IT_spec_Mix_0 (N : Nat) : Its E := addIt 0 (i_spec_Mix_0 N) (noIt)
theorem IT_spec_Mix_0_ok (N : Nat) : ItOk (IT_spec_Mix_0 N) 0 32 sl_spec_Mix (lsB Go.Proofs.Try.f74 [0]) :=
  addItB_ok (inner := []) ok (O_spec_Mix_ok N) (jn_ok _ _ _) (noIt_ok) rfl (by kernel_rfl) rfl fun vs H KL r h => by
    unfold i_spec_Mix_0 at h
    split at h
    · exact ⟨_, (le_spec_Mix_0 N _ KL N _ _).trans h⟩
    · cases h
def g_spec_Mix (N : Nat) {R : Type} (s : ByteArray) (n : Int) (k : Int → Option R) : Option R :=
  (cond (decide (((((ByteArray.size s) : Nat) : Int) > (65536 : Int))))
  (k (0 : Int))
  (g_spec_l01Mod N n (2147483629 : Int) fun n1 =>
    (c_spec_Mix_0 N s (Go.IntKind.wrap Go.IntKind.i64 (n1 + (1 : Int))) (0 : Int) fun n4 =>
    (k (Int.tmod (Go.IntKind.wrap Go.IntKind.i64 ((Go.IntKind.wrap Go.IntKind.i64 (n4 * (40503 : Int))) + (77 : Int))) (2147483629 : Int))))))
theorem e_spec_Mix (N : Nat) {R : Type} (s : ByteArray) (n : Int) (K : AV → Hp E → Option R) :
    runFnI (E := E) (O_spec_Mix N) (IT_spec_Mix_0 N) sl_spec_Mix J_spec_Mix Go.Proofs.Try.f74 [(Go.Eng.AV.sc (Go.Eng.SV.str s)), (Go.Eng.AV.sc (Go.Eng.SV.int Go.IntKind.i64 n))] [] K =
      g_spec_Mix N s n (fun n5 => K (Go.Eng.AV.sc (Go.Eng.SV.int Go.IntKind.i64 n5)) []) := by kernel_rfl
def o_spec_Mix (N : Nat) {R : Type} (args : List AV) (H : Hp E) (K : AV → Hp E → Option R) : Option R :=
  match args, H with
  | [(Go.Eng.AV.sc (Go.Eng.SV.str s)), (Go.Eng.AV.sc (Go.Eng.SV.int Go.IntKind.i64 n))], [] => g_spec_Mix N s n (fun n5 => K (Go.Eng.AV.sc (Go.Eng.SV.int Go.IntKind.i64 n5)) [])
  | _, _ => none
theorem o_spec_Mix_ok (N : Nat) : FnOk E 74 (o_spec_Mix N) := by
  intro R args H K r h
  unfold o_spec_Mix at h
  dsimp only at h
  split at h
  · exact fnB_ok (ids := [0]) (top := [0]) ok (O_spec_Mix_ok N) (jn_ok _ _ _) Go.Proofs.Try.func74 (by kernel_rfl) (IT := IT_spec_Mix_0 N) (sl := sl_spec_Mix) (J := J_spec_Mix) (K := K) (H := []) (IT_spec_Mix_0_ok N) (by kernel_rfl) rfl ((e_spec_Mix N _ _ K).trans h)
  · cases h
/-! ### loop.example/g00038/spec.Crypt -/
abbrev sl_spec_Crypt : SlotT := [(0, ([7, 8, 9, 10], [8]))]
abbrev J_spec_Crypt : JT := jn [(1, [(18, .b)])] [(33, [(9, .i .i64)])] []
noncomputable def O_spec_Crypt (N : Nat) : Orc E := addFn 74 (o_spec_Mix N) (addFn 93 (o_spec_PutWord N) (noFn))
def pa_spec_Crypt__o_spec_Mix (N : Nat) (G_spec_Mix : ∀ {R : Type} (s : ByteArray) (n : Int) (k : Int → Option R), Option R) (G_spec_PutWord : ∀ {R : Type} (n : Int) (k : ByteArray → Option R), Option R) {R : Type} (args : List AV) (H : Hp E) (K : AV → Hp E → Option R) : Option R :=
  match args, H with
  | [(Go.Eng.AV.sc (Go.Eng.SV.str s)), (Go.Eng.AV.sc (Go.Eng.SV.int Go.IntKind.i64 n))], [] => G_spec_Mix s n (fun n5 => K (Go.Eng.AV.sc (Go.Eng.SV.int Go.IntKind.i64 n5)) [])
  | _, _ => none
def pa_spec_Crypt__o_spec_PutWord (N : Nat) (G_spec_Mix : ∀ {R : Type} (s : ByteArray) (n : Int) (k : Int → Option R), Option R) (G_spec_PutWord : ∀ {R : Type} (n : Int) (k : ByteArray → Option R), Option R) {R : Type} (args : List AV) (H : Hp E) (K : AV → Hp E → Option R) : Option R :=
  match args, H with
  | [(Go.Eng.AV.sc (Go.Eng.SV.int Go.IntKind.i64 n))], [] => G_spec_PutWord n (fun s => K (Go.Eng.AV.sc (Go.Eng.SV.str s)) [])
  | _, _ => none
noncomputable def OA_spec_Crypt (N : Nat) (G_spec_Mix : ∀ {R : Type} (s : ByteArray) (n : Int) (k : Int → Option R), Option R) (G_spec_PutWord : ∀ {R : Type} (n : Int) (k : ByteArray → Option R), Option R) : Orc E := addFn 74 (pa_spec_Crypt__o_spec_Mix N G_spec_Mix G_spec_PutWord) (addFn 93 (pa_spec_Crypt__o_spec_PutWord N G_spec_Mix G_spec_PutWord) (noFn))
theorem O_spec_Crypt_ok (N : Nat) : OrcOk (O_spec_Crypt N) := addFn_ok (o_spec_Mix_ok N) (addFn_ok (o_spec_PutWord_ok N) (noFn_ok))
def s_spec_Crypt_0 (N : Nat) {R : Type} (s3 : ByteArray) (b : Bool) (n1 : Int) (n2 : Int) (l : List Int) (ag : Int → Int → (List Int) → Option R)  (kN : (List Int) → Option R) : Option R :=
  (cond (decide ((n2 < (((List.length l) : Nat) : Int))))
  (oK (cond ((Int.tmod n2 (3 : Int)) == (0 : Int))
      (g_spec_PutWord N (Go.IntKind.wrap Go.IntKind.i64 (Int.tdiv n2 (3 : Int))) fun s4 =>
        (cond (Nat.ble ((ByteArray.size s3) + (ByteArray.size s4)) 9223372036854775807)
        (g_spec_Mix N (s3 ++ s4) (11 : Int) fun n3 =>
          (some n3))
        none))
      (some n1)) fun j1 =>
    (cond ((decide (((0 : Int) ≤ n2))) && (decide ((n2 < (((List.length l) : Nat) : Int)))))
    (elemK l (Int.toNat n2) fun x =>
      (cond (decide (((Go.IntKind.wrap Go.IntKind.u64 (Go.IntKind.wrap Go.IntKind.i64 ((8 : Int) * (Int.tmod n2 (3 : Int))))) < (0 : Int))))
      none
      (cond ((decide (((0 : Int) ≤ n2))) && (decide ((n2 < (((List.length l) : Nat) : Int)))))
        (elemK l (Int.toNat n2) fun x1 =>
          (cond (Nat.blt (Int.toNat n2) (List.length l))
          (ag j1 (Go.IntKind.wrap Go.IntKind.i64 (n2 + (1 : Int))) (Go.Eng.nset l (Int.toNat n2) (Go.IntKind.wrap Go.IntKind.u8 (((BitVec.toNat ((BitVec.ofInt 8 x) ^^^ (BitVec.ofInt 8 (Go.IntKind.wrap Go.IntKind.u8 (Int.fdiv j1 ((2 : Int) ^ (Min.min (Int.toNat (Go.IntKind.wrap Go.IntKind.u64 (Go.IntKind.wrap Go.IntKind.i64 ((8 : Int) * (Int.tmod n2 (3 : Int)))))) 64))))))) : Nat) : Int))))
          none))
        none)))
    none))
  (kN l))
def ga_s_spec_Crypt_0 (N : Nat) (G_spec_Mix : ∀ {R : Type} (s : ByteArray) (n : Int) (k : Int → Option R), Option R) (G_spec_PutWord : ∀ {R : Type} (n : Int) (k : ByteArray → Option R), Option R) {R : Type} (s3 : ByteArray) (b : Bool) (n1 : Int) (n2 : Int) (l : List Int) (ag : Int → Int → (List Int) → Option R)  (kN : (List Int) → Option R) : Option R :=
  (cond (decide ((n2 < (((List.length l) : Nat) : Int))))
  (oK (cond ((Int.tmod n2 (3 : Int)) == (0 : Int))
      (G_spec_PutWord (Go.IntKind.wrap Go.IntKind.i64 (Int.tdiv n2 (3 : Int))) fun s4 =>
        (cond (Nat.ble ((ByteArray.size s3) + (ByteArray.size s4)) 9223372036854775807)
        (G_spec_Mix (s3 ++ s4) (11 : Int) fun n3 =>
          (some n3))
        none))
      (some n1)) fun j1 =>
    (cond ((decide (((0 : Int) ≤ n2))) && (decide ((n2 < (((List.length l) : Nat) : Int)))))
    (elemK l (Int.toNat n2) fun x =>
      (cond (decide (((Go.IntKind.wrap Go.IntKind.u64 (Go.IntKind.wrap Go.IntKind.i64 ((8 : Int) * (Int.tmod n2 (3 : Int))))) < (0 : Int))))
      none
      (cond ((decide (((0 : Int) ≤ n2))) && (decide ((n2 < (((List.length l) : Nat) : Int)))))
        (elemK l (Int.toNat n2) fun x1 =>
          (cond (Nat.blt (Int.toNat n2) (List.length l))
          (ag j1 (Go.IntKind.wrap Go.IntKind.i64 (n2 + (1 : Int))) (Go.Eng.nset l (Int.toNat n2) (Go.IntKind.wrap Go.IntKind.u8 (((BitVec.toNat ((BitVec.ofInt 8 x) ^^^ (BitVec.ofInt 8 (Go.IntKind.wrap Go.IntKind.u8 (Int.fdiv j1 ((2 : Int) ^ (Min.min (Int.toNat (Go.IntKind.wrap Go.IntKind.u64 (Go.IntKind.wrap Go.IntKind.i64 ((8 : Int) * (Int.tmod n2 (3 : Int)))))) 64))))))) : Nat) : Int))))
          none))
        none)))
    none))
  (kN l))
def l_spec_Crypt_0 (N : Nat) {R : Type} (s3 : ByteArray) (b : Bool) (kN : (List Int) → Option R) : Nat → Int → Int → (List Int) → Option R
  | 0, _, _, _ => none
  | f + 1, n1, n2, l => s_spec_Crypt_0 N s3 b n1 n2 l (fun n1 n2 l => l_spec_Crypt_0 N s3 b kN f n1 n2 l)  kN
def c_spec_Crypt_0 (N : Nat) {R : Type} (s3 : ByteArray) (b : Bool) (n1 : Int) (n2 : Int) (l : List Int) (kN : (List Int) → Option R) : Option R := l_spec_Crypt_0 N s3 b kN N n1 n2 l
theorem ea_se_spec_Crypt_0 (N : Nat) (G_spec_Mix : ∀ {R : Type} (s : ByteArray) (n : Int) (k : Int → Option R), Option R) (G_spec_PutWord : ∀ {R : Type} (n : Int) (k : ByteArray → Option R), Option R) {R : Type} (s3 : ByteArray) (b : Bool) (n1 : Int) (n2 : Int) (l : List Int) (AG : List (Option AV) → Hp E → Option R) (KL : Ex → List (Option AV) → Hp E → Option R) :
    iterStep (E := E) (OA_spec_Crypt N G_spec_Mix G_spec_PutWord) (fun {R} => LI (noIt) 0 57 sl_spec_Crypt (R := R)) J_spec_Crypt 0 57 0 [7, 8, 9, 10] [8] (body Go.Proofs.Try.f41 0) AG KL [(Option.some (Go.Eng.AV.sc (Go.Eng.SV.str s3))), (Option.some (Go.Eng.AV.sc (Go.Eng.SV.slc 0 Option.none b))), (Option.some (Go.Eng.AV.sc (Go.Eng.SV.int Go.IntKind.i64 n1))), (Option.some (Go.Eng.AV.sc (Go.Eng.SV.int Go.IntKind.i64 n2)))] [(Option.some (Go.Eng.HE.mk Bool.false (Go.Eng.HB.rows (Go.Sa.B.u8 l))))] =
      ga_s_spec_Crypt_0 N G_spec_Mix G_spec_PutWord s3 b n1 n2 l (fun n1 n2 l => AG [(Option.some (Go.Eng.AV.sc (Go.Eng.SV.str s3))), (Option.some (Go.Eng.AV.sc (Go.Eng.SV.slc 0 Option.none b))), (Option.some (Go.Eng.AV.sc (Go.Eng.SV.int Go.IntKind.i64 n1))), (Option.some (Go.Eng.AV.sc (Go.Eng.SV.int Go.IntKind.i64 n2)))] [(Option.some (Go.Eng.HE.mk Bool.false (Go.Eng.HB.rows (Go.Sa.B.u8 l))))])  (fun l2 => KL Go.Eng.Ex.normal [(Option.some (Go.Eng.AV.sc (Go.Eng.SV.slc 0 Option.none b)))] [(Option.some (Go.Eng.HE.mk Bool.false (Go.Eng.HB.rows (Go.Sa.B.u8 l2))))]) := by kernel_rfl
theorem se_spec_Crypt_0 (N : Nat) {R : Type} (s3 : ByteArray) (b : Bool) (n1 : Int) (n2 : Int) (l : List Int) (AG : List (Option AV) → Hp E → Option R) (KL : Ex → List (Option AV) → Hp E → Option R) :
    iterStep (E := E) (O_spec_Crypt N) (fun {R} => LI (noIt) 0 57 sl_spec_Crypt (R := R)) J_spec_Crypt 0 57 0 [7, 8, 9, 10] [8] (body Go.Proofs.Try.f41 0) AG KL [(Option.some (Go.Eng.AV.sc (Go.Eng.SV.str s3))), (Option.some (Go.Eng.AV.sc (Go.Eng.SV.slc 0 Option.none b))), (Option.some (Go.Eng.AV.sc (Go.Eng.SV.int Go.IntKind.i64 n1))), (Option.some (Go.Eng.AV.sc (Go.Eng.SV.int Go.IntKind.i64 n2)))] [(Option.some (Go.Eng.HE.mk Bool.false (Go.Eng.HB.rows (Go.Sa.B.u8 l))))] =
      s_spec_Crypt_0 N s3 b n1 n2 l (fun n1 n2 l => AG [(Option.some (Go.Eng.AV.sc (Go.Eng.SV.str s3))), (Option.some (Go.Eng.AV.sc (Go.Eng.SV.slc 0 Option.none b))), (Option.some (Go.Eng.AV.sc (Go.Eng.SV.int Go.IntKind.i64 n1))), (Option.some (Go.Eng.AV.sc (Go.Eng.SV.int Go.IntKind.i64 n2)))] [(Option.some (Go.Eng.HE.mk Bool.false (Go.Eng.HB.rows (Go.Sa.B.u8 l))))])  (fun l2 => KL Go.Eng.Ex.normal [(Option.some (Go.Eng.AV.sc (Go.Eng.SV.slc 0 Option.none b)))] [(Option.some (Go.Eng.HE.mk Bool.false (Go.Eng.HB.rows (Go.Sa.B.u8 l2))))]) := castPr (by kernel_rfl) (ea_se_spec_Crypt_0 N (g_spec_Mix N) (g_spec_PutWord N) s3 b n1 n2 l AG KL)
theorem le_spec_Crypt_0 (N : Nat) {R : Type} (s3 : ByteArray) (b : Bool) (KL : Ex → List (Option AV) → Hp E → Option R) : ∀ (f : Nat), ∀ (n1 : Int) (n2 : Int) (l : List Int), iterK (E := E) (O_spec_Crypt N) (fun {R} => LI (noIt) 0 57 sl_spec_Crypt (R := R)) J_spec_Crypt 0 57 0 [7, 8, 9, 10] [8] (body Go.Proofs.Try.f41 0) f [(Option.some (Go.Eng.AV.sc (Go.Eng.SV.str s3))), (Option.some (Go.Eng.AV.sc (Go.Eng.SV.slc 0 Option.none b))), (Option.some (Go.Eng.AV.sc (Go.Eng.SV.int Go.IntKind.i64 n1))), (Option.some (Go.Eng.AV.sc (Go.Eng.SV.int Go.IntKind.i64 n2)))] [(Option.some (Go.Eng.HE.mk Bool.false (Go.Eng.HB.rows (Go.Sa.B.u8 l))))] KL = l_spec_Crypt_0 N s3 b (fun l2 => KL Go.Eng.Ex.normal [(Option.some (Go.Eng.AV.sc (Go.Eng.SV.slc 0 Option.none b)))] [(Option.some (Go.Eng.HE.mk Bool.false (Go.Eng.HB.rows (Go.Sa.B.u8 l2))))]) f n1 n2 l := by
  intro f
  induction f with
  | zero => intros; rfl
  | succ f ih =>
    intro n1 n2 l
    rw [iterK_succ, se_spec_Crypt_0]
    exact (congrArg (fun z0 => s_spec_Crypt_0 N s3 b n1 n2 l z0 (fun l2 => KL Go.Eng.Ex.normal [(Option.some (Go.Eng.AV.sc (Go.Eng.SV.slc 0 Option.none b)))] [(Option.some (Go.Eng.HE.mk Bool.false (Go.Eng.HB.rows (Go.Sa.B.u8 l2))))])) (funext fun n1 => funext fun n2 => funext fun l => ih n1 n2 l))
def i_spec_Crypt_0 (N : Nat) {R : Type} (vs : List (Option AV)) (H : Hp E) (KL : Ex → List (Option AV) → Hp E → Option R) : Option R :=
  match vs, H with
  | [(Option.some (Go.Eng.AV.sc (Go.Eng.SV.str s3))), (Option.some (Go.Eng.AV.sc (Go.Eng.SV.slc 0 Option.none b))), (Option.some (Go.Eng.AV.sc (Go.Eng.SV.int Go.IntKind.i64 n1))), (Option.some (Go.Eng.AV.sc (Go.Eng.SV.int Go.IntKind.i64 n2)))], [(Option.some (Go.Eng.HE.mk Bool.false (Go.Eng.HB.rows (Go.Sa.B.u8 l))))] => c_spec_Crypt_0 N s3 b n1 n2 l (fun l3 => KL Go.Eng.Ex.normal [(Option.some (Go.Eng.AV.sc (Go.Eng.SV.slc 0 Option.none b)))] [(Option.some (Go.Eng.HE.mk Bool.false (Go.Eng.HB.rows (Go.Sa.B.u8 l3))))])
  | _, _ => none
noncomputable def IT_spec_Crypt_0 (N : Nat) : Its E := addIt 0 (i_spec_Crypt_0 N) (noIt)
theorem IT_spec_Crypt_0_ok (N : Nat) : ItOk (IT_spec_Crypt_0 N) 0 57 sl_spec_Crypt (lsB Go.Proofs.Try.f41 [0]) :=
  addItB_ok (inner := []) ok (O_spec_Crypt_ok N) (jn_ok _ _ _) (noIt_ok) rfl (by kernel_rfl) rfl fun vs H KL r h => by
    unfold i_spec_Crypt_0 at h
    split at h
    · exact ⟨_, (le_spec_Crypt_0 N _ _ KL N _ _ _).trans h⟩
    · cases h
def g_spec_Crypt (N : Nat) {R : Type} (s : ByteArray) (n : Int) (s1 : ByteArray) (k : ByteArray → Option R) : Option R :=
  (oK (cond (decide (((((ByteArray.size s) : Nat) : Int) > (4096 : Int))))
    (some Bool.true)
    (some (decide (((((ByteArray.size s1) : Nat) : Int) > (65536 : Int)))))) fun j =>
  (cond j
  (k (ByteArray.mk (List.toArray [])))
  (g_spec_PutWord N n fun s2 =>
    (cond (Nat.ble ((ByteArray.size s) + (ByteArray.size s2)) 9223372036854775807)
    (c_spec_Crypt_0 N (s ++ s2) Bool.false (0 : Int) (0 : Int) (Go.Eng.ofBytes s1) fun l1 =>
      (cond (Nat.ble (0 + (List.length l1)) (List.length l1))
      (k (Go.Eng.toBytes (Go.Eng.seg l1 0 (List.length l1))))
      none))
    none))))
def ga_g_spec_Crypt (N : Nat) (G_spec_Mix : ∀ {R : Type} (s : ByteArray) (n : Int) (k : Int → Option R), Option R) (G_spec_PutWord : ∀ {R : Type} (n : Int) (k : ByteArray → Option R), Option R) {R : Type} (s : ByteArray) (n : Int) (s1 : ByteArray) (k : ByteArray → Option R) : Option R :=
  (oK (cond (decide (((((ByteArray.size s) : Nat) : Int) > (4096 : Int))))
    (some Bool.true)
    (some (decide (((((ByteArray.size s1) : Nat) : Int) > (65536 : Int)))))) fun j =>
  (cond j
  (k (ByteArray.mk (List.toArray [])))
  (G_spec_PutWord n fun s2 =>
    (cond (Nat.ble ((ByteArray.size s) + (ByteArray.size s2)) 9223372036854775807)
    (c_spec_Crypt_0 N (s ++ s2) Bool.false (0 : Int) (0 : Int) (Go.Eng.ofBytes s1) fun l1 =>
      (cond (Nat.ble (0 + (List.length l1)) (List.length l1))
      (k (Go.Eng.toBytes (Go.Eng.seg l1 0 (List.length l1))))
      none))
    none))))
theorem ea_e_spec_Crypt (N : Nat) (G_spec_Mix : ∀ {R : Type} (s : ByteArray) (n : Int) (k : Int → Option R), Option R) (G_spec_PutWord : ∀ {R : Type} (n : Int) (k : ByteArray → Option R), Option R) {R : Type} (s : ByteArray) (n : Int) (s1 : ByteArray) (K : AV → Hp E → Option R) :
    runFnI (E := E) (OA_spec_Crypt N G_spec_Mix G_spec_PutWord) (IT_spec_Crypt_0 N) sl_spec_Crypt J_spec_Crypt Go.Proofs.Try.f41 [(Go.Eng.AV.sc (Go.Eng.SV.str s)), (Go.Eng.AV.sc (Go.Eng.SV.int Go.IntKind.i64 n)), (Go.Eng.AV.sc (Go.Eng.SV.str s1))] [] K =
      ga_g_spec_Crypt N G_spec_Mix G_spec_PutWord s n s1 (fun s5 => K (Go.Eng.AV.sc (Go.Eng.SV.str s5)) []) := by kernel_rfl
theorem e_spec_Crypt (N : Nat) {R : Type} (s : ByteArray) (n : Int) (s1 : ByteArray) (K : AV → Hp E → Option R) :
    runFnI (E := E) (O_spec_Crypt N) (IT_spec_Crypt_0 N) sl_spec_Crypt J_spec_Crypt Go.Proofs.Try.f41 [(Go.Eng.AV.sc (Go.Eng.SV.str s)), (Go.Eng.AV.sc (Go.Eng.SV.int Go.IntKind.i64 n)), (Go.Eng.AV.sc (Go.Eng.SV.str s1))] [] K =
      g_spec_Crypt N s n s1 (fun s5 => K (Go.Eng.AV.sc (Go.Eng.SV.str s5)) []) := castPr (by kernel_rfl) (ea_e_spec_Crypt N (g_spec_Mix N) (g_spec_PutWord N) s n s1 K)
def o_spec_Crypt (N : Nat) {R : Type} (args : List AV) (H : Hp E) (K : AV → Hp E → Option R) : Option R :=
  match args, H with
  | [(Go.Eng.AV.sc (Go.Eng.SV.str s)), (Go.Eng.AV.sc (Go.Eng.SV.int Go.IntKind.i64 n)), (Go.Eng.AV.sc (Go.Eng.SV.str s1))], [] => g_spec_Crypt N s n s1 (fun s5 => K (Go.Eng.AV.sc (Go.Eng.SV.str s5)) [])
  | _, _ => none
theorem o_spec_Crypt_ok (N : Nat) : FnOk E 41 (o_spec_Crypt N) := by
  intro R args H K r h
  unfold o_spec_Crypt at h
  dsimp only at h
  split at h
  · exact fnB_ok (ids := [0]) (top := [0]) ok (O_spec_Crypt_ok N) (jn_ok _ _ _) Go.Proofs.Try.func41 (by kernel_rfl) (IT := IT_spec_Crypt_0 N) (sl := sl_spec_Crypt) (J := J_spec_Crypt) (K := K) (H := []) (IT_spec_Crypt_0_ok N) (by kernel_rfl) rfl ((e_spec_Crypt N _ _ _ K).trans h)
  · cases h
/-! ### loop.example/g00038/spec.TagOf -/
abbrev sl_spec_TagOf : SlotT := []
abbrev J_spec_TagOf : JT := jn [(1, [(12, .b)])] [] []
noncomputable def O_spec_TagOf (N : Nat) : Orc E := addFn 93 (o_spec_PutWord N) (addFn 74 (o_spec_Mix N) (noFn))
theorem O_spec_TagOf_ok (N : Nat) : OrcOk (O_spec_TagOf N) := addFn_ok (o_spec_PutWord_ok N) (addFn_ok (o_spec_Mix_ok N) (noFn_ok))
def g_spec_TagOf (N : Nat) {R : Type} (s : ByteArray) (s1 : ByteArray) (k : ByteArray → Option R) : Option R :=
  (oK (cond (decide (((((ByteArray.size s) : Nat) : Int) > (4096 : Int))))
    (some Bool.true)
    (some (decide (((((ByteArray.size s1) : Nat) : Int) > (4096 : Int)))))) fun j =>
  (cond j
  (k (ByteArray.mk (List.toArray [])))
  (cond (Nat.ble ((ByteArray.size s) + (ByteArray.size s1)) 9223372036854775807)
    (g_spec_Mix N (s ++ s1) (21 : Int) fun n =>
      (g_spec_PutWord N n fun s2 =>
      (cond (Nat.ble ((ByteArray.size s1) + (ByteArray.size s)) 9223372036854775807)
      (g_spec_Mix N (s1 ++ s) (22 : Int) fun n1 =>
        (g_spec_PutWord N n1 fun s3 =>
        (cond (Nat.ble ((ByteArray.size s2) + (ByteArray.size s3)) 9223372036854775807)
        (k (s2 ++ s3))
        none)))
      none)))
    none)))
theorem e_spec_TagOf (N : Nat) {R : Type} (s : ByteArray) (s1 : ByteArray) (K : AV → Hp E → Option R) :
    runFnI (E := E) (O_spec_TagOf N) (noIt) sl_spec_TagOf J_spec_TagOf Go.Proofs.Try.f56 [(Go.Eng.AV.sc (Go.Eng.SV.str s)), (Go.Eng.AV.sc (Go.Eng.SV.str s1))] [] K =
      g_spec_TagOf N s s1 (fun s4 => K (Go.Eng.AV.sc (Go.Eng.SV.str s4)) []) := by kernel_rfl
def o_spec_TagOf (N : Nat) {R : Type} (args : List AV) (H : Hp E) (K : AV → Hp E → Option R) : Option R :=
  match args, H with
  | [(Go.Eng.AV.sc (Go.Eng.SV.str s)), (Go.Eng.AV.sc (Go.Eng.SV.str s1))], [] => g_spec_TagOf N s s1 (fun s4 => K (Go.Eng.AV.sc (Go.Eng.SV.str s4)) [])
  | _, _ => none
theorem o_spec_TagOf_ok (N : Nat) : FnOk E 56 (o_spec_TagOf N) := by
  intro R args H K r h
  unfold o_spec_TagOf at h
  dsimp only at h
  split at h
  · exact fnB_ok (ids := []) (top := []) ok (O_spec_TagOf_ok N) (jn_ok _ _ _) Go.Proofs.Try.func56 (by kernel_rfl) (IT := noIt) (sl := sl_spec_TagOf) (J := J_spec_TagOf) (K := K) (H := []) (noIt_ok) (by kernel_rfl) rfl ((e_spec_TagOf N _ _ K).trans h)
  · cases h
/-! ### loop.example/g00038/spec.Seal -/
abbrev sl_spec_Seal_w : SlotT := []
abbrev J_spec_Seal_w : JT := jn [(1, [(23, .b)])] [] []
noncomputable def O_spec_Seal_w (N : Nat) : Orc E := addFn 56 (o_spec_TagOf N) (addFn 41 (o_spec_Crypt N) (addFn 55 (o_spec_l15Key_w N) (addFn 54 (o_spec_l15Mask_w N) (noFn))))
def pa_spec_Seal_w__o_spec_TagOf (N : Nat) (G_spec_TagOf : ∀ {R : Type} (s : ByteArray) (s1 : ByteArray) (k : ByteArray → Option R), Option R) (G_spec_Crypt : ∀ {R : Type} (s : ByteArray) (n : Int) (s1 : ByteArray) (k : ByteArray → Option R), Option R) (G_spec_l15Key_w : ∀ {R : Type} (s : ByteArray) (b : Bool) (n : Int) (l : List Int) (k : ByteArray → Option R), Option R) (G_spec_l15Mask_w : ∀ {R : Type} (b : Bool) (n : Int) (l : List Int) (k : Bool → Option R), Option R) {R : Type} (args : List AV) (H : Hp E) (K : AV → Hp E → Option R) : Option R :=
  match args, H with
  | [(Go.Eng.AV.sc (Go.Eng.SV.str s)), (Go.Eng.AV.sc (Go.Eng.SV.str s1))], [] => G_spec_TagOf s s1 (fun s4 => K (Go.Eng.AV.sc (Go.Eng.SV.str s4)) [])
  | _, _ => none
def pa_spec_Seal_w__o_spec_Crypt (N : Nat) (G_spec_TagOf : ∀ {R : Type} (s : ByteArray) (s1 : ByteArray) (k : ByteArray → Option R), Option R) (G_spec_Crypt : ∀ {R : Type} (s : ByteArray) (n : Int) (s1 : ByteArray) (k : ByteArray → Option R), Option R) (G_spec_l15Key_w : ∀ {R : Type} (s : ByteArray) (b : Bool) (n : Int) (l : List Int) (k : ByteArray → Option R), Option R) (G_spec_l15Mask_w : ∀ {R : Type} (b : Bool) (n : Int) (l : List Int) (k : Bool → Option R), Option R) {R : Type} (args : List AV) (H : Hp E) (K : AV → Hp E → Option R) : Option R :=
  match args, H with
  | [(Go.Eng.AV.sc (Go.Eng.SV.str s)), (Go.Eng.AV.sc (Go.Eng.SV.int Go.IntKind.i64 n)), (Go.Eng.AV.sc (Go.Eng.SV.str s1))], [] => G_spec_Crypt s n s1 (fun s5 => K (Go.Eng.AV.sc (Go.Eng.SV.str s5)) [])
  | _, _ => none
def pa_spec_Seal_w__o_spec_l15Key_w (N : Nat) (G_spec_TagOf : ∀ {R : Type} (s : ByteArray) (s1 : ByteArray) (k : ByteArray → Option R), Option R) (G_spec_Crypt : ∀ {R : Type} (s : ByteArray) (n : Int) (s1 : ByteArray) (k : ByteArray → Option R), Option R) (G_spec_l15Key_w : ∀ {R : Type} (s : ByteArray) (b : Bool) (n : Int) (l : List Int) (k : ByteArray → Option R), Option R) (G_spec_l15Mask_w : ∀ {R : Type} (b : Bool) (n : Int) (l : List Int) (k : Bool → Option R), Option R) {R : Type} (args : List AV) (H : Hp E) (K : AV → Hp E → Option R) : Option R :=
  match args, H with
  | [(Go.Eng.AV.sc (Go.Eng.SV.str s)), (Go.Eng.AV.sc (Go.Eng.SV.slc 0 Option.none b)), (Go.Eng.AV.sc (Go.Eng.SV.int Go.IntKind.i64 n))], [(Option.some (Go.Eng.HE.mk Bool.false (Go.Eng.HB.rows (Go.Sa.B.i64 l))))] => G_spec_l15Key_w s b n l (fun s5 => K (Go.Eng.AV.sc (Go.Eng.SV.str s5)) [(Option.some (Go.Eng.HE.mk Bool.false (Go.Eng.HB.rows (Go.Sa.B.i64 l))))])
  | _, _ => none
def pa_spec_Seal_w__o_spec_l15Mask_w (N : Nat) (G_spec_TagOf : ∀ {R : Type} (s : ByteArray) (s1 : ByteArray) (k : ByteArray → Option R), Option R) (G_spec_Crypt : ∀ {R : Type} (s : ByteArray) (n : Int) (s1 : ByteArray) (k : ByteArray → Option R), Option R) (G_spec_l15Key_w : ∀ {R : Type} (s : ByteArray) (b : Bool) (n : Int) (l : List Int) (k : ByteArray → Option R), Option R) (G_spec_l15Mask_w : ∀ {R : Type} (b : Bool) (n : Int) (l : List Int) (k : Bool → Option R), Option R) {R : Type} (args : List AV) (H : Hp E) (K : AV → Hp E → Option R) : Option R :=
  match args, H with
  | [(Go.Eng.AV.sc (Go.Eng.SV.slc 0 Option.none b)), (Go.Eng.AV.sc (Go.Eng.SV.int Go.IntKind.i64 n))], [(Option.some (Go.Eng.HE.mk Bool.false (Go.Eng.HB.rows (Go.Sa.B.i64 l))))] => G_spec_l15Mask_w b n l (fun b2 => K (Go.Eng.AV.sc (Go.Eng.SV.bool b2)) [(Option.some (Go.Eng.HE.mk Bool.false (Go.Eng.HB.rows (Go.Sa.B.i64 l))))])
  | _, _ => none
noncomputable def OA_spec_Seal_w (N : Nat) (G_spec_TagOf : ∀ {R : Type} (s : ByteArray) (s1 : ByteArray) (k : ByteArray → Option R), Option R) (G_spec_Crypt : ∀ {R : Type} (s : ByteArray) (n : Int) (s1 : ByteArray) (k : ByteArray → Option R), Option R) (G_spec_l15Key_w : ∀ {R : Type} (s : ByteArray) (b : Bool) (n : Int) (l : List Int) (k : ByteArray → Option R), Option R) (G_spec_l15Mask_w : ∀ {R : Type} (b : Bool) (n : Int) (l : List Int) (k : Bool → Option R), Option R) : Orc E := addFn 56 (pa_spec_Seal_w__o_spec_TagOf N G_spec_TagOf G_spec_Crypt G_spec_l15Key_w G_spec_l15Mask_w) (addFn 41 (pa_spec_Seal_w__o_spec_Crypt N G_spec_TagOf G_spec_Crypt G_spec_l15Key_w G_spec_l15Mask_w) (addFn 55 (pa_spec_Seal_w__o_spec_l15Key_w N G_spec_TagOf G_spec_Crypt G_spec_l15Key_w G_spec_l15Mask_w) (addFn 54 (pa_spec_Seal_w__o_spec_l15Mask_w N G_spec_TagOf G_spec_Crypt G_spec_l15Key_w G_spec_l15Mask_w) (noFn))))
theorem O_spec_Seal_w_ok (N : Nat) : OrcOk (O_spec_Seal_w N) := addFn_ok (o_spec_TagOf_ok N) (addFn_ok (o_spec_Crypt_ok N) (addFn_ok (o_spec_l15Key_w_ok N) (addFn_ok (o_spec_l15Mask_w_ok N) (noFn_ok))))
def g_spec_Seal_w (N : Nat) {R : Type} (s : ByteArray) (b : Bool) (n : Int) (s1 : ByteArray) (l : List Int) (k : Int → Int → ByteArray → ByteArray → Option R) : Option R :=
  (oK (cond (decide (((((ByteArray.size s) : Nat) : Int) > (4032 : Int))))
    (some Bool.true)
    (cond (decide (((((ByteArray.size s1) : Nat) : Int) > (4096 : Int))))
      (some Bool.true)
      (some (decide (((((List.length l) : Nat) : Int) > (1000 : Int))))))) fun j =>
  (cond j
  (k (2 : Int) (0 : Int) (ByteArray.mk (List.toArray [])) (ByteArray.mk (List.toArray [])))
  (g_spec_l15Mask_w N b n l fun b1 =>
    (cond (!b1)
    (k (1 : Int) (0 : Int) (ByteArray.mk (List.toArray [])) (ByteArray.mk (List.toArray [])))
    (g_spec_l15Key_w N s b n l fun s2 =>
      (g_spec_Crypt N s2 (1 : Int) s1 fun s3 =>
      (g_spec_TagOf N s2 s3 fun s4 =>
      (k (0 : Int) n s3 s4))))))))
def ga_g_spec_Seal_w (N : Nat) (G_spec_TagOf : ∀ {R : Type} (s : ByteArray) (s1 : ByteArray) (k : ByteArray → Option R), Option R) (G_spec_Crypt : ∀ {R : Type} (s : ByteArray) (n : Int) (s1 : ByteArray) (k : ByteArray → Option R), Option R) (G_spec_l15Key_w : ∀ {R : Type} (s : ByteArray) (b : Bool) (n : Int) (l : List Int) (k : ByteArray → Option R), Option R) (G_spec_l15Mask_w : ∀ {R : Type} (b : Bool) (n : Int) (l : List Int) (k : Bool → Option R), Option R) {R : Type} (s : ByteArray) (b : Bool) (n : Int) (s1 : ByteArray) (l : List Int) (k : Int → Int → ByteArray → ByteArray → Option R) : Option R :=
  (oK (cond (decide (((((ByteArray.size s) : Nat) : Int) > (4032 : Int))))
    (some Bool.true)
    (cond (decide (((((ByteArray.size s1) : Nat) : Int) > (4096 : Int))))
      (some Bool.true)
      (some (decide (((((List.length l) : Nat) : Int) > (1000 : Int))))))) fun j =>
  (cond j
  (k (2 : Int) (0 : Int) (ByteArray.mk (List.toArray [])) (ByteArray.mk (List.toArray [])))
  (G_spec_l15Mask_w b n l fun b1 =>
    (cond (!b1)
    (k (1 : Int) (0 : Int) (ByteArray.mk (List.toArray [])) (ByteArray.mk (List.toArray [])))
    (G_spec_l15Key_w s b n l fun s2 =>
      (G_spec_Crypt s2 (1 : Int) s1 fun s3 =>
      (G_spec_TagOf s2 s3 fun s4 =>
      (k (0 : Int) n s3 s4))))))))
theorem ea_e_spec_Seal_w (N : Nat) (G_spec_TagOf : ∀ {R : Type} (s : ByteArray) (s1 : ByteArray) (k : ByteArray → Option R), Option R) (G_spec_Crypt : ∀ {R : Type} (s : ByteArray) (n : Int) (s1 : ByteArray) (k : ByteArray → Option R), Option R) (G_spec_l15Key_w : ∀ {R : Type} (s : ByteArray) (b : Bool) (n : Int) (l : List Int) (k : ByteArray → Option R), Option R) (G_spec_l15Mask_w : ∀ {R : Type} (b : Bool) (n : Int) (l : List Int) (k : Bool → Option R), Option R) {R : Type} (s : ByteArray) (b : Bool) (n : Int) (s1 : ByteArray) (l : List Int) (K : AV → Hp E → Option R) :
    runFnI (E := E) (OA_spec_Seal_w N G_spec_TagOf G_spec_Crypt G_spec_l15Key_w G_spec_l15Mask_w) (noIt) sl_spec_Seal_w J_spec_Seal_w Go.Proofs.Try.f12 [(Go.Eng.AV.sc (Go.Eng.SV.str s)), (Go.Eng.AV.sc (Go.Eng.SV.slc 0 Option.none b)), (Go.Eng.AV.sc (Go.Eng.SV.int Go.IntKind.i64 n)), (Go.Eng.AV.sc (Go.Eng.SV.str s1))] [(Option.some (Go.Eng.HE.mk Bool.false (Go.Eng.HB.rows (Go.Sa.B.i64 l))))] K =
      ga_g_spec_Seal_w N G_spec_TagOf G_spec_Crypt G_spec_l15Key_w G_spec_l15Mask_w s b n s1 l (fun n1 n2 s5 s6 => K (Go.Eng.AV.agg [(Go.Eng.SV.int Go.IntKind.i64 n1), (Go.Eng.SV.int Go.IntKind.i64 n2), (Go.Eng.SV.str s5), (Go.Eng.SV.str s6)]) [(Option.some (Go.Eng.HE.mk Bool.false (Go.Eng.HB.rows (Go.Sa.B.i64 l))))]) := by kernel_rfl
theorem e_spec_Seal_w (N : Nat) {R : Type} (s : ByteArray) (b : Bool) (n : Int) (s1 : ByteArray) (l : List Int) (K : AV → Hp E → Option R) :
    runFnI (E := E) (O_spec_Seal_w N) (noIt) sl_spec_Seal_w J_spec_Seal_w Go.Proofs.Try.f12 [(Go.Eng.AV.sc (Go.Eng.SV.str s)), (Go.Eng.AV.sc (Go.Eng.SV.slc 0 Option.none b)), (Go.Eng.AV.sc (Go.Eng.SV.int Go.IntKind.i64 n)), (Go.Eng.AV.sc (Go.Eng.SV.str s1))] [(Option.some (Go.Eng.HE.mk Bool.false (Go.Eng.HB.rows (Go.Sa.B.i64 l))))] K =
      g_spec_Seal_w N s b n s1 l (fun n1 n2 s5 s6 => K (Go.Eng.AV.agg [(Go.Eng.SV.int Go.IntKind.i64 n1), (Go.Eng.SV.int Go.IntKind.i64 n2), (Go.Eng.SV.str s5), (Go.Eng.SV.str s6)]) [(Option.some (Go.Eng.HE.mk Bool.false (Go.Eng.HB.rows (Go.Sa.B.i64 l))))]) := castPr (by kernel_rfl) (ea_e_spec_Seal_w N (g_spec_TagOf N) (g_spec_Crypt N) (g_spec_l15Key_w N) (g_spec_l15Mask_w N) s b n s1 l K)
def o_spec_Seal_w (N : Nat) {R : Type} (args : List AV) (H : Hp E) (K : AV → Hp E → Option R) : Option R :=
  match args, H with
  | [(Go.Eng.AV.sc (Go.Eng.SV.str s)), (Go.Eng.AV.sc (Go.Eng.SV.slc 0 Option.none b)), (Go.Eng.AV.sc (Go.Eng.SV.int Go.IntKind.i64 n)), (Go.Eng.AV.sc (Go.Eng.SV.str s1))], [(Option.some (Go.Eng.HE.mk Bool.false (Go.Eng.HB.rows (Go.Sa.B.i64 l))))] => g_spec_Seal_w N s b n s1 l (fun n1 n2 s5 s6 => K (Go.Eng.AV.agg [(Go.Eng.SV.int Go.IntKind.i64 n1), (Go.Eng.SV.int Go.IntKind.i64 n2), (Go.Eng.SV.str s5), (Go.Eng.SV.str s6)]) [(Option.some (Go.Eng.HE.mk Bool.false (Go.Eng.HB.rows (Go.Sa.B.i64 l))))])
  | _, _ => none
theorem o_spec_Seal_w_ok (N : Nat) : FnOk E 12 (o_spec_Seal_w N) := by
  intro R args H K r h
  unfold o_spec_Seal_w at h
  dsimp only at h
  split at h
  · exact fnB_ok (ids := []) (top := []) ok (O_spec_Seal_w_ok N) (jn_ok _ _ _) Go.Proofs.Try.func12 (by kernel_rfl) (IT := noIt) (sl := sl_spec_Seal_w) (J := J_spec_Seal_w) (K := K) (H := [(Option.some (Go.Eng.HE.mk Bool.false (Go.Eng.HB.rows (Go.Sa.B.i64 _))))]) (noIt_ok) (by kernel_rfl) rfl ((e_spec_Seal_w N _ _ _ _ _ K).trans h)
  · cases h
/-! ### loop.example/g00038/impl.ysealOk -/
abbrev sl_impl_ysealOk_r : SlotT := []
abbrev J_impl_ysealOk_r : JT := jn [(1, [(4, .b)])] [] []
noncomputable def O_impl_ysealOk_r (N : Nat) : Orc E := addFn 77 (o_impl_yin N) (addFn 66 (o_impl_yregsOk_r N) (noFn))
theorem O_impl_ysealOk_r_ok (N : Nat) : OrcOk (O_impl_ysealOk_r N) := addFn_ok (o_impl_yin_ok N) (addFn_ok (o_impl_yregsOk_r_ok N) (noFn_ok))
def g_impl_ysealOk_r (N : Nat) {R : Type} (b : Bool) (n : Int) (l : List Int) (k : Bool → Option R) : Option R :=
  (oK (g_impl_yregsOk_r N b l fun b1 =>
    (cond b1
    (g_impl_yin N n (0 : Int) (Go.IntKind.wrap Go.IntKind.i64 ((Go.IntKind.wrap Go.IntKind.i64 ((1 : Int) * ((2 : Int) ^ (Min.min (Int.toNat (((List.length l) : Nat) : Int)) 64)))) - (1 : Int))) fun b2 =>
      (some b2))
    (some Bool.false))) fun j =>
  (k j))
theorem e_impl_ysealOk_r (N : Nat) {R : Type} (b : Bool) (n : Int) (l : List Int) (K : AV → Hp E → Option R) :
    runFnI (E := E) (O_impl_ysealOk_r N) (noIt) sl_impl_ysealOk_r J_impl_ysealOk_r Go.Proofs.Try.f58 [(Go.Eng.AV.sc (Go.Eng.SV.slc 0 Option.none b)), (Go.Eng.AV.sc (Go.Eng.SV.int Go.IntKind.i64 n))] [(Option.some (Go.Eng.HE.mk Bool.true (Go.Eng.HB.rows (Go.Sa.B.i64 l))))] K =
      g_impl_ysealOk_r N b n l (fun b3 => K (Go.Eng.AV.sc (Go.Eng.SV.bool b3)) [(Option.some (Go.Eng.HE.mk Bool.true (Go.Eng.HB.rows (Go.Sa.B.i64 l))))]) := by kernel_rfl
def o_impl_ysealOk_r (N : Nat) {R : Type} (args : List AV) (H : Hp E) (K : AV → Hp E → Option R) : Option R :=
  match args, H with
  | [(Go.Eng.AV.sc (Go.Eng.SV.slc 0 Option.none b)), (Go.Eng.AV.sc (Go.Eng.SV.int Go.IntKind.i64 n))], [(Option.some (Go.Eng.HE.mk Bool.true (Go.Eng.HB.rows (Go.Sa.B.i64 l))))] => g_impl_ysealOk_r N b n l (fun b3 => K (Go.Eng.AV.sc (Go.Eng.SV.bool b3)) [(Option.some (Go.Eng.HE.mk Bool.true (Go.Eng.HB.rows (Go.Sa.B.i64 l))))])
  | _, _ => none
theorem o_impl_ysealOk_r_ok (N : Nat) : FnOk E 58 (o_impl_ysealOk_r N) := by
  intro R args H K r h
  unfold o_impl_ysealOk_r at h
  dsimp only at h
  split at h
  · exact fnB_ok (ids := []) (top := []) ok (O_impl_ysealOk_r_ok N) (jn_ok _ _ _) Go.Proofs.Try.func58 (by kernel_rfl) (IT := noIt) (sl := sl_impl_ysealOk_r) (J := J_impl_ysealOk_r) (K := K) (H := [(Option.some (Go.Eng.HE.mk Bool.true (Go.Eng.HB.rows (Go.Sa.B.i64 _))))]) (noIt_ok) (by kernel_rfl) rfl ((e_impl_ysealOk_r N _ _ _ K).trans h)
  · cases h
/-! ### loop.example/g00038/impl.Unseal -/
abbrev sl_impl_Unseal_w : SlotT := []
abbrev J_impl_Unseal_w : JT := jn [(1, [(21, .b)]), (3, [(32, .b)])] [] []
noncomputable def O_impl_Unseal_w (N : Nat) : Orc E := addFn 40 (o_impl_Crypt N) (addFn 60 (o_impl_TagOf N) (addFn 59 (o_impl_ysealKey_w N) (addFn 58 (o_impl_ysealOk_r N) (addFn 57 (o_impl_ylongKey_w N) (noFn)))))
def pa_impl_Unseal_w__o_impl_Crypt (N : Nat) (G_impl_Crypt : ∀ {R : Type} (s : ByteArray) (n : Int) (s1 : ByteArray) (k : ByteArray → Option R), Option R) (G_impl_TagOf : ∀ {R : Type} (s : ByteArray) (s1 : ByteArray) (k : ByteArray → Option R), Option R) (G_impl_ysealKey_w : ∀ {R : Type} (s : ByteArray) (b : Bool) (n : Int) (l : List Int) (k : ByteArray → Option R), Option R) (G_impl_ysealOk_r : ∀ {R : Type} (b : Bool) (n : Int) (l : List Int) (k : Bool → Option R), Option R) (G_impl_ylongKey_w : ∀ {R : Type} (b : Bool) (l : List ByteArray) (k : Bool → Option R), Option R) {R : Type} (args : List AV) (H : Hp E) (K : AV → Hp E → Option R) : Option R :=
  match args, H with
  | [(Go.Eng.AV.sc (Go.Eng.SV.str s)), (Go.Eng.AV.sc (Go.Eng.SV.int Go.IntKind.i64 n)), (Go.Eng.AV.sc (Go.Eng.SV.str s1))], [] => G_impl_Crypt s n s1 (fun s7 => K (Go.Eng.AV.sc (Go.Eng.SV.str s7)) [])
  | _, _ => none
def pa_impl_Unseal_w__o_impl_TagOf (N : Nat) (G_impl_Crypt : ∀ {R : Type} (s : ByteArray) (n : Int) (s1 : ByteArray) (k : ByteArray → Option R), Option R) (G_impl_TagOf : ∀ {R : Type} (s : ByteArray) (s1 : ByteArray) (k : ByteArray → Option R), Option R) (G_impl_ysealKey_w : ∀ {R : Type} (s : ByteArray) (b : Bool) (n : Int) (l : List Int) (k : ByteArray → Option R), Option R) (G_impl_ysealOk_r : ∀ {R : Type} (b : Bool) (n : Int) (l : List Int) (k : Bool → Option R), Option R) (G_impl_ylongKey_w : ∀ {R : Type} (b : Bool) (l : List ByteArray) (k : Bool → Option R), Option R) {R : Type} (args : List AV) (H : Hp E) (K : AV → Hp E → Option R) : Option R :=
  match args, H with
  | [(Go.Eng.AV.sc (Go.Eng.SV.str s)), (Go.Eng.AV.sc (Go.Eng.SV.str s1))], [] => G_impl_TagOf s s1 (fun s4 => K (Go.Eng.AV.sc (Go.Eng.SV.str s4)) [])
  | _, _ => none
def pa_impl_Unseal_w__o_impl_ysealKey_w (N : Nat) (G_impl_Crypt : ∀ {R : Type} (s : ByteArray) (n : Int) (s1 : ByteArray) (k : ByteArray → Option R), Option R) (G_impl_TagOf : ∀ {R : Type} (s : ByteArray) (s1 : ByteArray) (k : ByteArray → Option R), Option R) (G_impl_ysealKey_w : ∀ {R : Type} (s : ByteArray) (b : Bool) (n : Int) (l : List Int) (k : ByteArray → Option R), Option R) (G_impl_ysealOk_r : ∀ {R : Type} (b : Bool) (n : Int) (l : List Int) (k : Bool → Option R), Option R) (G_impl_ylongKey_w : ∀ {R : Type} (b : Bool) (l : List ByteArray) (k : Bool → Option R), Option R) {R : Type} (args : List AV) (H : Hp E) (K : AV → Hp E → Option R) : Option R :=
  match args, H with
  | [(Go.Eng.AV.sc (Go.Eng.SV.str s)), (Go.Eng.AV.sc (Go.Eng.SV.slc 0 Option.none b)), (Go.Eng.AV.sc (Go.Eng.SV.int Go.IntKind.i64 n))], [(Option.some (Go.Eng.HE.mk Bool.false (Go.Eng.HB.rows (Go.Sa.B.i64 l))))] => G_impl_ysealKey_w s b n l (fun s6 => K (Go.Eng.AV.sc (Go.Eng.SV.str s6)) [(Option.some (Go.Eng.HE.mk Bool.false (Go.Eng.HB.rows (Go.Sa.B.i64 l))))])
  | _, _ => none
def pa_impl_Unseal_w__o_impl_ysealOk_r (N : Nat) (G_impl_Crypt : ∀ {R : Type} (s : ByteArray) (n : Int) (s1 : ByteArray) (k : ByteArray → Option R), Option R) (G_impl_TagOf : ∀ {R : Type} (s : ByteArray) (s1 : ByteArray) (k : ByteArray → Option R), Option R) (G_impl_ysealKey_w : ∀ {R : Type} (s : ByteArray) (b : Bool) (n : Int) (l : List Int) (k : ByteArray → Option R), Option R) (G_impl_ysealOk_r : ∀ {R : Type} (b : Bool) (n : Int) (l : List Int) (k : Bool → Option R), Option R) (G_impl_ylongKey_w : ∀ {R : Type} (b : Bool) (l : List ByteArray) (k : Bool → Option R), Option R) {R : Type} (args : List AV) (H : Hp E) (K : AV → Hp E → Option R) : Option R :=
  match args, H with
  | [(Go.Eng.AV.sc (Go.Eng.SV.slc 0 Option.none b)), (Go.Eng.AV.sc (Go.Eng.SV.int Go.IntKind.i64 n))], [(Option.some (Go.Eng.HE.mk Bool.true (Go.Eng.HB.rows (Go.Sa.B.i64 l))))] => G_impl_ysealOk_r b n l (fun b3 => K (Go.Eng.AV.sc (Go.Eng.SV.bool b3)) [(Option.some (Go.Eng.HE.mk Bool.true (Go.Eng.HB.rows (Go.Sa.B.i64 l))))])
  | _, _ => none
def pa_impl_Unseal_w__o_impl_ylongKey_w (N : Nat) (G_impl_Crypt : ∀ {R : Type} (s : ByteArray) (n : Int) (s1 : ByteArray) (k : ByteArray → Option R), Option R) (G_impl_TagOf : ∀ {R : Type} (s : ByteArray) (s1 : ByteArray) (k : ByteArray → Option R), Option R) (G_impl_ysealKey_w : ∀ {R : Type} (s : ByteArray) (b : Bool) (n : Int) (l : List Int) (k : ByteArray → Option R), Option R) (G_impl_ysealOk_r : ∀ {R : Type} (b : Bool) (n : Int) (l : List Int) (k : Bool → Option R), Option R) (G_impl_ylongKey_w : ∀ {R : Type} (b : Bool) (l : List ByteArray) (k : Bool → Option R), Option R) {R : Type} (args : List AV) (H : Hp E) (K : AV → Hp E → Option R) : Option R :=
  match args, H with
  | [(Go.Eng.AV.sc (Go.Eng.SV.slc 0 Option.none b))], [(Option.some (Go.Eng.HE.mk Bool.false (Go.Eng.HB.rows (Go.Sa.B.str l))))] => G_impl_ylongKey_w b l (fun b2 => K (Go.Eng.AV.sc (Go.Eng.SV.bool b2)) [(Option.some (Go.Eng.HE.mk Bool.false (Go.Eng.HB.rows (Go.Sa.B.str l))))])
  | _, _ => none
noncomputable def OA_impl_Unseal_w (N : Nat) (G_impl_Crypt : ∀ {R : Type} (s : ByteArray) (n : Int) (s1 : ByteArray) (k : ByteArray → Option R), Option R) (G_impl_TagOf : ∀ {R : Type} (s : ByteArray) (s1 : ByteArray) (k : ByteArray → Option R), Option R) (G_impl_ysealKey_w : ∀ {R : Type} (s : ByteArray) (b : Bool) (n : Int) (l : List Int) (k : ByteArray → Option R), Option R) (G_impl_ysealOk_r : ∀ {R : Type} (b : Bool) (n : Int) (l : List Int) (k : Bool → Option R), Option R) (G_impl_ylongKey_w : ∀ {R : Type} (b : Bool) (l : List ByteArray) (k : Bool → Option R), Option R) : Orc E := addFn 40 (pa_impl_Unseal_w__o_impl_Crypt N G_impl_Crypt G_impl_TagOf G_impl_ysealKey_w G_impl_ysealOk_r G_impl_ylongKey_w) (addFn 60 (pa_impl_Unseal_w__o_impl_TagOf N G_impl_Crypt G_impl_TagOf G_impl_ysealKey_w G_impl_ysealOk_r G_impl_ylongKey_w) (addFn 59 (pa_impl_Unseal_w__o_impl_ysealKey_w N G_impl_Crypt G_impl_TagOf G_impl_ysealKey_w G_impl_ysealOk_r G_impl_ylongKey_w) (addFn 58 (pa_impl_Unseal_w__o_impl_ysealOk_r N G_impl_Crypt G_impl_TagOf G_impl_ysealKey_w G_impl_ysealOk_r G_impl_ylongKey_w) (addFn 57 (pa_impl_Unseal_w__o_impl_ylongKey_w N G_impl_Crypt G_impl_TagOf G_impl_ysealKey_w G_impl_ysealOk_r G_impl_ylongKey_w) (noFn)))))
theorem O_impl_Unseal_w_ok (N : Nat) : OrcOk (O_impl_Unseal_w N) := addFn_ok (o_impl_Crypt_ok N) (addFn_ok (o_impl_TagOf_ok N) (addFn_ok (o_impl_ysealKey_w_ok N) (addFn_ok (o_impl_ysealOk_r_ok N) (addFn_ok (o_impl_ylongKey_w_ok N) (noFn_ok)))))
def g_impl_Unseal_w (N : Nat) {R : Type} (s : ByteArray) (b : Bool) (n : Int) (n1 : Int) (s1 : ByteArray) (s2 : ByteArray) (l : List Int) (k : Int → ByteArray → Option R) : Option R :=
  (oK (cond (decide (((((ByteArray.size s) : Nat) : Int) > (4032 : Int))))
    (some Bool.true)
    (g_impl_ylongKey_w N Bool.false [s1] fun b1 =>
      (cond b1
      (some Bool.true)
      (some (decide (((((List.length l) : Nat) : Int) > (1000 : Int)))))))) fun j =>
  (cond j
  (k (2 : Int) (ByteArray.mk (List.toArray [])))
  (oK (g_impl_ysealOk_r N b n1 l fun b2 =>
      (cond (!b2)
      (some Bool.true)
      (some (n != (0 : Int))))) fun j1 =>
    (cond j1
    (k (1 : Int) (ByteArray.mk (List.toArray [])))
    (g_impl_ysealKey_w N s b n1 l fun s3 =>
      (g_impl_TagOf N s3 s1 fun s4 =>
      (cond (!(decide ((s4 = s2))))
      (k (7 : Int) (ByteArray.mk (List.toArray [])))
      (g_impl_Crypt N s3 (1 : Int) s1 fun s5 =>
        (k (0 : Int) s5)))))))))
def ga_g_impl_Unseal_w (N : Nat) (G_impl_Crypt : ∀ {R : Type} (s : ByteArray) (n : Int) (s1 : ByteArray) (k : ByteArray → Option R), Option R) (G_impl_TagOf : ∀ {R : Type} (s : ByteArray) (s1 : ByteArray) (k : ByteArray → Option R), Option R) (G_impl_ysealKey_w : ∀ {R : Type} (s : ByteArray) (b : Bool) (n : Int) (l : List Int) (k : ByteArray → Option R), Option R) (G_impl_ysealOk_r : ∀ {R : Type} (b : Bool) (n : Int) (l : List Int) (k : Bool → Option R), Option R) (G_impl_ylongKey_w : ∀ {R : Type} (b : Bool) (l : List ByteArray) (k : Bool → Option R), Option R) {R : Type} (s : ByteArray) (b : Bool) (n : Int) (n1 : Int) (s1 : ByteArray) (s2 : ByteArray) (l : List Int) (k : Int → ByteArray → Option R) : Option R :=
  (oK (cond (decide (((((ByteArray.size s) : Nat) : Int) > (4032 : Int))))
    (some Bool.true)
    (G_impl_ylongKey_w Bool.false [s1] fun b1 =>
      (cond b1
      (some Bool.true)
      (some (decide (((((List.length l) : Nat) : Int) > (1000 : Int)))))))) fun j =>
  (cond j
  (k (2 : Int) (ByteArray.mk (List.toArray [])))
  (oK (G_impl_ysealOk_r b n1 l fun b2 =>
      (cond (!b2)
      (some Bool.true)
      (some (n != (0 : Int))))) fun j1 =>
    (cond j1
    (k (1 : Int) (ByteArray.mk (List.toArray [])))
    (G_impl_ysealKey_w s b n1 l fun s3 =>
      (G_impl_TagOf s3 s1 fun s4 =>
      (cond (!(decide ((s4 = s2))))
      (k (7 : Int) (ByteArray.mk (List.toArray [])))
      (G_impl_Crypt s3 (1 : Int) s1 fun s5 =>
        (k (0 : Int) s5)))))))))
theorem ea_e_impl_Unseal_w (N : Nat) (G_impl_Crypt : ∀ {R : Type} (s : ByteArray) (n : Int) (s1 : ByteArray) (k : ByteArray → Option R), Option R) (G_impl_TagOf : ∀ {R : Type} (s : ByteArray) (s1 : ByteArray) (k : ByteArray → Option R), Option R) (G_impl_ysealKey_w : ∀ {R : Type} (s : ByteArray) (b : Bool) (n : Int) (l : List Int) (k : ByteArray → Option R), Option R) (G_impl_ysealOk_r : ∀ {R : Type} (b : Bool) (n : Int) (l : List Int) (k : Bool → Option R), Option R) (G_impl_ylongKey_w : ∀ {R : Type} (b : Bool) (l : List ByteArray) (k : Bool → Option R), Option R) {R : Type} (s : ByteArray) (b : Bool) (n : Int) (n1 : Int) (s1 : ByteArray) (s2 : ByteArray) (l : List Int) (K : AV → Hp E → Option R) :
    runFnI (E := E) (OA_impl_Unseal_w N G_impl_Crypt G_impl_TagOf G_impl_ysealKey_w G_impl_ysealOk_r G_impl_ylongKey_w) (noIt) sl_impl_Unseal_w J_impl_Unseal_w Go.Proofs.Try.f20 [(Go.Eng.AV.sc (Go.Eng.SV.str s)), (Go.Eng.AV.sc (Go.Eng.SV.slc 0 Option.none b)), (Go.Eng.AV.agg [(Go.Eng.SV.int Go.IntKind.i64 n), (Go.Eng.SV.int Go.IntKind.i64 n1), (Go.Eng.SV.str s1), (Go.Eng.SV.str s2)])] [(Option.some (Go.Eng.HE.mk Bool.false (Go.Eng.HB.rows (Go.Sa.B.i64 l))))] K =
      ga_g_impl_Unseal_w N G_impl_Crypt G_impl_TagOf G_impl_ysealKey_w G_impl_ysealOk_r G_impl_ylongKey_w s b n n1 s1 s2 l (fun n2 s6 => K (Go.Eng.AV.agg [(Go.Eng.SV.int Go.IntKind.i64 n2), (Go.Eng.SV.str s6)]) [(Option.some (Go.Eng.HE.mk Bool.false (Go.Eng.HB.rows (Go.Sa.B.i64 l))))]) := by kernel_rfl
theorem e_impl_Unseal_w (N : Nat) {R : Type} (s : ByteArray) (b : Bool) (n : Int) (n1 : Int) (s1 : ByteArray) (s2 : ByteArray) (l : List Int) (K : AV → Hp E → Option R) :
    runFnI (E := E) (O_impl_Unseal_w N) (noIt) sl_impl_Unseal_w J_impl_Unseal_w Go.Proofs.Try.f20 [(Go.Eng.AV.sc (Go.Eng.SV.str s)), (Go.Eng.AV.sc (Go.Eng.SV.slc 0 Option.none b)), (Go.Eng.AV.agg [(Go.Eng.SV.int Go.IntKind.i64 n), (Go.Eng.SV.int Go.IntKind.i64 n1), (Go.Eng.SV.str s1), (Go.Eng.SV.str s2)])] [(Option.some (Go.Eng.HE.mk Bool.false (Go.Eng.HB.rows (Go.Sa.B.i64 l))))] K =
      g_impl_Unseal_w N s b n n1 s1 s2 l (fun n2 s6 => K (Go.Eng.AV.agg [(Go.Eng.SV.int Go.IntKind.i64 n2), (Go.Eng.SV.str s6)]) [(Option.some (Go.Eng.HE.mk Bool.false (Go.Eng.HB.rows (Go.Sa.B.i64 l))))]) := castPr (by kernel_rfl) (ea_e_impl_Unseal_w N (g_impl_Crypt N) (g_impl_TagOf N) (g_impl_ysealKey_w N) (g_impl_ysealOk_r N) (g_impl_ylongKey_w N) s b n n1 s1 s2 l K)
def o_impl_Unseal_w (N : Nat) {R : Type} (args : List AV) (H : Hp E) (K : AV → Hp E → Option R) : Option R :=
  match args, H with
  | [(Go.Eng.AV.sc (Go.Eng.SV.str s)), (Go.Eng.AV.sc (Go.Eng.SV.slc 0 Option.none b)), (Go.Eng.AV.agg [(Go.Eng.SV.int Go.IntKind.i64 n), (Go.Eng.SV.int Go.IntKind.i64 n1), (Go.Eng.SV.str s1), (Go.Eng.SV.str s2)])], [(Option.some (Go.Eng.HE.mk Bool.false (Go.Eng.HB.rows (Go.Sa.B.i64 l))))] => g_impl_Unseal_w N s b n n1 s1 s2 l (fun n2 s6 => K (Go.Eng.AV.agg [(Go.Eng.SV.int Go.IntKind.i64 n2), (Go.Eng.SV.str s6)]) [(Option.some (Go.Eng.HE.mk Bool.false (Go.Eng.HB.rows (Go.Sa.B.i64 l))))])
  | _, _ => none
theorem o_impl_Unseal_w_ok (N : Nat) : FnOk E 20 (o_impl_Unseal_w N) := by
  intro R args H K r h
  unfold o_impl_Unseal_w at h
  dsimp only at h
  split at h
  · exact fnB_ok (ids := []) (top := []) ok (O_impl_Unseal_w_ok N) (jn_ok _ _ _) Go.Proofs.Try.func20 (by kernel_rfl) (IT := noIt) (sl := sl_impl_Unseal_w) (J := J_impl_Unseal_w) (K := K) (H := [(Option.some (Go.Eng.HE.mk Bool.false (Go.Eng.HB.rows (Go.Sa.B.i64 _))))]) (noIt_ok) (by kernel_rfl) rfl ((e_impl_Unseal_w N _ _ _ _ _ _ _ K).trans h)
  · cases h
/-! ### loop.example/g00038/laws.lwAt -/
abbrev sl_laws_lwAt_r : SlotT := []
abbrev J_laws_lwAt_r : JT := jn [] [] []
noncomputable def O_laws_lwAt_r (N : Nat) : Orc E := noFn
theorem O_laws_lwAt_r_ok (N : Nat) : OrcOk (O_laws_lwAt_r N) := noFn_ok
def g_laws_lwAt_r (N : Nat) {R : Type} (b : Bool) (n : Int) (n1 : Int) (l : List Int) (k : Int → Option R) : Option R :=
  (cond ((((List.length l) : Nat) : Int) == (0 : Int))
  (k (0 : Int))
  (cond ((((List.length l) : Nat) : Int) == (0 : Int))
    none
    (cond ((decide (((0 : Int) ≤ (Int.tmod n (((List.length l) : Nat) : Int))))) && (decide (((Int.tmod n (((List.length l) : Nat) : Int)) < (((List.length l) : Nat) : Int)))))
      (elemK l (Int.toNat (Int.tmod n (((List.length l) : Nat) : Int))) fun x =>
        (cond (n1 == (0 : Int))
        none
        (k (Int.tmod (Go.IntKind.wrap Go.IntKind.i64 x) n1))))
      none)))
theorem e_laws_lwAt_r (N : Nat) {R : Type} (b : Bool) (n : Int) (n1 : Int) (l : List Int) (K : AV → Hp E → Option R) :
    runFnI (E := E) (O_laws_lwAt_r N) (noIt) sl_laws_lwAt_r J_laws_lwAt_r Go.Proofs.Try.f46 [(Go.Eng.AV.sc (Go.Eng.SV.slc 0 Option.none b)), (Go.Eng.AV.sc (Go.Eng.SV.int Go.IntKind.i64 n)), (Go.Eng.AV.sc (Go.Eng.SV.int Go.IntKind.i64 n1))] [(Option.some (Go.Eng.HE.mk Bool.true (Go.Eng.HB.rows (Go.Sa.B.u8 l))))] K =
      g_laws_lwAt_r N b n n1 l (fun n2 => K (Go.Eng.AV.sc (Go.Eng.SV.int Go.IntKind.i64 n2)) [(Option.some (Go.Eng.HE.mk Bool.true (Go.Eng.HB.rows (Go.Sa.B.u8 l))))]) := by kernel_rfl
def o_laws_lwAt_r (N : Nat) {R : Type} (args : List AV) (H : Hp E) (K : AV → Hp E → Option R) : Option R :=
  match args, H with
  | [(Go.Eng.AV.sc (Go.Eng.SV.slc 0 Option.none b)), (Go.Eng.AV.sc (Go.Eng.SV.int Go.IntKind.i64 n)), (Go.Eng.AV.sc (Go.Eng.SV.int Go.IntKind.i64 n1))], [(Option.some (Go.Eng.HE.mk Bool.true (Go.Eng.HB.rows (Go.Sa.B.u8 l))))] => g_laws_lwAt_r N b n n1 l (fun n2 => K (Go.Eng.AV.sc (Go.Eng.SV.int Go.IntKind.i64 n2)) [(Option.some (Go.Eng.HE.mk Bool.true (Go.Eng.HB.rows (Go.Sa.B.u8 l))))])
  | _, _ => none
theorem o_laws_lwAt_r_ok (N : Nat) : FnOk E 46 (o_laws_lwAt_r N) := by
  intro R args H K r h
  unfold o_laws_lwAt_r at h
  dsimp only at h
  split at h
  · exact fnB_ok (ids := []) (top := []) ok (O_laws_lwAt_r_ok N) (jn_ok _ _ _) Go.Proofs.Try.func46 (by kernel_rfl) (IT := noIt) (sl := sl_laws_lwAt_r) (J := J_laws_lwAt_r) (K := K) (H := [(Option.some (Go.Eng.HE.mk Bool.true (Go.Eng.HB.rows (Go.Sa.B.u8 _))))]) (noIt_ok) (by kernel_rfl) rfl ((e_laws_lwAt_r N _ _ _ _ K).trans h)
  · cases h
/-! ### loop.example/g00038/spec.l01Ints -/
abbrev sl_spec_l01Ints_w : SlotT := []
abbrev J_spec_l01Ints_w : JT := jn [] [] []
noncomputable def O_spec_l01Ints_w (N : Nat) : Orc E := noFn
theorem O_spec_l01Ints_w_ok (N : Nat) : OrcOk (O_spec_l01Ints_w N) := noFn_ok
def g_spec_l01Ints_w (N : Nat) {R : Type} (b : Bool) (l : List Int) (k : Bool → (List Int) → Option R) : Option R :=
  (cond (Go.Eng.roomOk (0 + (List.length l)) 8)
  (k (cond (Nat.beq (List.length l) 0) Bool.false Bool.false) ([] ++ l))
  none)
theorem e_spec_l01Ints_w (N : Nat) {R : Type} (b : Bool) (l : List Int) (K : AV → Hp E → Option R) :
    runFnI (E := E) (O_spec_l01Ints_w N) (noIt) sl_spec_l01Ints_w J_spec_l01Ints_w Go.Proofs.Try.f97 [(Go.Eng.AV.sc (Go.Eng.SV.slc 0 Option.none b))] [(Option.some (Go.Eng.HE.mk Bool.false (Go.Eng.HB.rows (Go.Sa.B.i64 l))))] K =
      g_spec_l01Ints_w N b l (fun b1 l1 => K (Go.Eng.AV.sc (Go.Eng.SV.slc 1 Option.none b1)) [(Option.some (Go.Eng.HE.mk Bool.false (Go.Eng.HB.rows (Go.Sa.B.i64 l)))), (Option.some (Go.Eng.HE.mk Bool.false (Go.Eng.HB.rows (Go.Sa.B.i64 l1))))]) := by kernel_rfl
def o_spec_l01Ints_w (N : Nat) {R : Type} (args : List AV) (H : Hp E) (K : AV → Hp E → Option R) : Option R :=
  match args, H with
  | [(Go.Eng.AV.sc (Go.Eng.SV.slc 0 Option.none b))], [(Option.some (Go.Eng.HE.mk Bool.false (Go.Eng.HB.rows (Go.Sa.B.i64 l))))] => g_spec_l01Ints_w N b l (fun b1 l1 => K (Go.Eng.AV.sc (Go.Eng.SV.slc 1 Option.none b1)) [(Option.some (Go.Eng.HE.mk Bool.false (Go.Eng.HB.rows (Go.Sa.B.i64 l)))), (Option.some (Go.Eng.HE.mk Bool.false (Go.Eng.HB.rows (Go.Sa.B.i64 l1))))])
  | _, _ => none
theorem o_spec_l01Ints_w_ok (N : Nat) : FnOk E 97 (o_spec_l01Ints_w N) := by
  intro R args H K r h
  unfold o_spec_l01Ints_w at h
  dsimp only at h
  split at h
  · exact fnB_ok (ids := []) (top := []) ok (O_spec_l01Ints_w_ok N) (jn_ok _ _ _) Go.Proofs.Try.func97 (by kernel_rfl) (IT := noIt) (sl := sl_spec_l01Ints_w) (J := J_spec_l01Ints_w) (K := K) (H := [(Option.some (Go.Eng.HE.mk Bool.false (Go.Eng.HB.rows (Go.Sa.B.i64 _))))]) (noIt_ok) (by kernel_rfl) rfl ((e_spec_l01Ints_w N _ _ K).trans h)
  · cases h
end Go.Sa
