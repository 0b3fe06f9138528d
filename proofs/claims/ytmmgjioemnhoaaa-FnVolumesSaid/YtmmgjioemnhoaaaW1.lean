import Derived.Test.YtmmgjioemnhoaaaSpec
import Derived.Test.YtmmgjioemnhoaaaPLb
import Derived.Test.YtmmgjioemnhoaaaW0
set_option linter.all false
namespace Go.Sa
open Go Go.Eng Go.Proofs
set_option maxRecDepth 100000
/-! ### loop.example/g00038/spec.Crypt -/
abbrev sl_spec_Crypt : SlotT := [(0, ([7, 8, 9, 10], [8]))]
abbrev J_spec_Crypt : JT := jn [(1, [(18, .b)])] [(33, [(9, .i .i64)])] []
noncomputable def O_spec_Crypt (N : Nat) : Orc E := addFn 74 (o_spec_Mix N) (addFn 93 (o_spec_PutWord N) (noFn))
def pa_spec_Crypt__o_spec_Mix (N : Nat) (G_spec_Mix : ∀ {R : Type} (s : ByteArray) (n : Int) (k : Int → Option R), Option R) (G_spec_PutWord : ∀ {R : Type} (n : Int) (k : ByteArray → Option R), Option R) {R : Type} (args : List AV) (H : Hp E) (K : AV → Hp E → Option R) : Option R :=
  match args, H with
  | [(Go.Eng.AV.sc (Go.Eng.SV.str s)), (Go.Eng.AV.sc (Go.Eng.SV.int Go.IntKind.i64 n))], [] => G_spec_Mix s n (fun n5 => K (Go.Eng.AV.sc (Go.Eng.SV.int Go.IntKind.i64 n5)) [])
  | _, _ => none
def pa_spec_Crypt__o_spec_PutWord (N : Nat) (G_spec_Mix : ∀ {R : Type} (s : ByteArray) (n : Int) (k : Int → Option R), Option R) (G_spec_PutWord : ∀ {R : Type} (n : Int) (k : ByteArray → Option R), Option R) {R : Type} (args : List AV) (H : Hp E) (K : AV → Hp E → Option R) : Option R :=
  match args, H with
  | [(Go.Eng.AV.sc (Go.Eng.SV.int Go.IntKind.i64 n))], [] => G_spec_PutWord n (fun s => K (Go.Eng.AV.sc (Go.Eng.SV.str s)) [])
  | _, _ => none
noncomputable def OA_spec_Crypt (N : Nat) (G_spec_Mix : ∀ {R : Type} (s : ByteArray) (n : Int) (k : Int → Option R), Option R) (G_spec_PutWord : ∀ {R : Type} (n : Int) (k : ByteArray → Option R), Option R) : Orc E := addFn 74 (pa_spec_Crypt__o_spec_Mix N G_spec_Mix G_spec_PutWord) (addFn 93 (pa_spec_Crypt__o_spec_PutWord N G_spec_Mix G_spec_PutWord) (noFn))
theorem O_spec_Crypt_ok (N : Nat) : OrcOk (O_spec_Crypt N) := addFn_ok (o_spec_Mix_ok N) (addFn_ok (o_spec_PutWord_ok N) (noFn_ok))
def s_spec_Crypt_0 (N : Nat) {R : Type} (s3 : ByteArray) (b : Bool) (n1 : Int) (n2 : Int) (l : List Int) (ag : Int → Int → (List Int) → Option R)  (kN : (List Int) → Option R) : Option R :=
  (cond (decide ((n2 < (((List.length l) : Nat) : Int))))
  (oK (cond ((Int.tmod n2 (3 : Int)) == (0 : Int))
      (g_spec_PutWord N (Go.IntKind.wrap Go.IntKind.i64 (Int.tdiv n2 (3 : Int))) fun s4 =>
        (cond (Nat.ble ((ByteArray.size s3) + (ByteArray.size s4)) 9223372036854775807)
        (g_spec_Mix N (s3 ++ s4) (11 : Int) fun n3 =>
          (some n3))
        none))
      (some n1)) fun j1 =>
    (cond ((decide (((0 : Int) ≤ n2))) && (decide ((n2 < (((List.length l) : Nat) : Int)))))
    (elemK l (Int.toNat n2) fun x =>
      (cond (decide (((Go.IntKind.wrap Go.IntKind.u64 (Go.IntKind.wrap Go.IntKind.i64 ((8 : Int) * (Int.tmod n2 (3 : Int))))) < (0 : Int))))
      none
      (cond ((decide (((0 : Int) ≤ n2))) && (decide ((n2 < (((List.length l) : Nat) : Int)))))
        (elemK l (Int.toNat n2) fun x1 =>
          (cond (Nat.blt (Int.toNat n2) (List.length l))
          (ag j1 (Go.IntKind.wrap Go.IntKind.i64 (n2 + (1 : Int))) (Go.Eng.nset l (Int.toNat n2) (Go.IntKind.wrap Go.IntKind.u8 (((BitVec.toNat ((BitVec.ofInt 8 x) ^^^ (BitVec.ofInt 8 (Go.IntKind.wrap Go.IntKind.u8 (Int.fdiv j1 ((2 : Int) ^ (Min.min (Int.toNat (Go.IntKind.wrap Go.IntKind.u64 (Go.IntKind.wrap Go.IntKind.i64 ((8 : Int) * (Int.tmod n2 (3 : Int)))))) 64))))))) : Nat) : Int))))
          none))
        none)))
    none))
  (kN l))
def ga_s_spec_Crypt_0 (N : Nat) (G_spec_Mix : ∀ {R : Type} (s : ByteArray) (n : Int) (k : Int → Option R), Option R) (G_spec_PutWord : ∀ {R : Type} (n : Int) (k : ByteArray → Option R), Option R) {R : Type} (s3 : ByteArray) (b : Bool) (n1 : Int) (n2 : Int) (l : List Int) (ag : Int → Int → (List Int) → Option R)  (kN : (List Int) → Option R) : Option R :=
  (cond (decide ((n2 < (((List.length l) : Nat) : Int))))
  (oK (cond ((Int.tmod n2 (3 : Int)) == (0 : Int))
      (G_spec_PutWord (Go.IntKind.wrap Go.IntKind.i64 (Int.tdiv n2 (3 : Int))) fun s4 =>
        (cond (Nat.ble ((ByteArray.size s3) + (ByteArray.size s4)) 9223372036854775807)
        (G_spec_Mix (s3 ++ s4) (11 : Int) fun n3 =>
          (some n3))
        none))
      (some n1)) fun j1 =>
    (cond ((decide (((0 : Int) ≤ n2))) && (decide ((n2 < (((List.length l) : Nat) : Int)))))
    (elemK l (Int.toNat n2) fun x =>
      (cond (decide (((Go.IntKind.wrap Go.IntKind.u64 (Go.IntKind.wrap Go.IntKind.i64 ((8 : Int) * (Int.tmod n2 (3 : Int))))) < (0 : Int))))
      none
      (cond ((decide (((0 : Int) ≤ n2))) && (decide ((n2 < (((List.length l) : Nat) : Int)))))
        (elemK l (Int.toNat n2) fun x1 =>
          (cond (Nat.blt (Int.toNat n2) (List.length l))
          (ag j1 (Go.IntKind.wrap Go.IntKind.i64 (n2 + (1 : Int))) (Go.Eng.nset l (Int.toNat n2) (Go.IntKind.wrap Go.IntKind.u8 (((BitVec.toNat ((BitVec.ofInt 8 x) ^^^ (BitVec.ofInt 8 (Go.IntKind.wrap Go.IntKind.u8 (Int.fdiv j1 ((2 : Int) ^ (Min.min (Int.toNat (Go.IntKind.wrap Go.IntKind.u64 (Go.IntKind.wrap Go.IntKind.i64 ((8 : Int) * (Int.tmod n2 (3 : Int)))))) 64))))))) : Nat) : Int))))
          none))
        none)))
    none))
  (kN l))
def l_spec_Crypt_0 (N : Nat) {R : Type} (s3 : ByteArray) (b : Bool) (kN : (List Int) → Option R) : Nat → Int → Int → (List Int) → Option R
  | 0, _, _, _ => none
  | f + 1, n1, n2, l => s_spec_Crypt_0 N s3 b n1 n2 l (fun n1 n2 l => l_spec_Crypt_0 N s3 b kN f n1 n2 l)  kN
def c_spec_Crypt_0 (N : Nat) {R : Type} (s3 : ByteArray) (b : Bool) (n1 : Int) (n2 : Int) (l : List Int) (kN : (List Int) → Option R) : Option R := l_spec_Crypt_0 N s3 b kN N n1 n2 l
theorem ea_se_spec_Crypt_0 (N : Nat) (G_spec_Mix : ∀ {R : Type} (s : ByteArray) (n : Int) (k : Int → Option R), Option R) (G_spec_PutWord : ∀ {R : Type} (n : Int) (k : ByteArray → Option R), Option R) {R : Type} (s3 : ByteArray) (b : Bool) (n1 : Int) (n2 : Int) (l : List Int) (AG : List (Option AV) → Hp E → Option R) (KL : Ex → List (Option AV) → Hp E → Option R) :
    iterStep (E := E) (OA_spec_Crypt N G_spec_Mix G_spec_PutWord) (fun {R} => LI (noIt) 0 57 sl_spec_Crypt (R := R)) J_spec_Crypt 0 57 0 [7, 8, 9, 10] [8] (body Go.Proofs.Try.f41 0) AG KL [(Option.some (Go.Eng.AV.sc (Go.Eng.SV.str s3))), (Option.some (Go.Eng.AV.sc (Go.Eng.SV.slc 0 Option.none b))), (Option.some (Go.Eng.AV.sc (Go.Eng.SV.int Go.IntKind.i64 n1))), (Option.some (Go.Eng.AV.sc (Go.Eng.SV.int Go.IntKind.i64 n2)))] [(Option.some (Go.Eng.HE.mk Bool.false (Go.Eng.HB.rows (Go.Sa.B.u8 l))))] =
      ga_s_spec_Crypt_0 N G_spec_Mix G_spec_PutWord s3 b n1 n2 l (fun n1 n2 l => AG [(Option.some (Go.Eng.AV.sc (Go.Eng.SV.str s3))), (Option.some (Go.Eng.AV.sc (Go.Eng.SV.slc 0 Option.none b))), (Option.some (Go.Eng.AV.sc (Go.Eng.SV.int Go.IntKind.i64 n1))), (Option.some (Go.Eng.AV.sc (Go.Eng.SV.int Go.IntKind.i64 n2)))] [(Option.some (Go.Eng.HE.mk Bool.false (Go.Eng.HB.rows (Go.Sa.B.u8 l))))])  (fun l2 => KL Go.Eng.Ex.normal [(Option.some (Go.Eng.AV.sc (Go.Eng.SV.slc 0 Option.none b)))] [(Option.some (Go.Eng.HE.mk Bool.false (Go.Eng.HB.rows (Go.Sa.B.u8 l2))))]) := by kernel_rfl
theorem se_spec_Crypt_0 (N : Nat) {R : Type} (s3 : ByteArray) (b : Bool) (n1 : Int) (n2 : Int) (l : List Int) (AG : List (Option AV) → Hp E → Option R) (KL : Ex → List (Option AV) → Hp E → Option R) :
    iterStep (E := E) (O_spec_Crypt N) (fun {R} => LI (noIt) 0 57 sl_spec_Crypt (R := R)) J_spec_Crypt 0 57 0 [7, 8, 9, 10] [8] (body Go.Proofs.Try.f41 0) AG KL [(Option.some (Go.Eng.AV.sc (Go.Eng.SV.str s3))), (Option.some (Go.Eng.AV.sc (Go.Eng.SV.slc 0 Option.none b))), (Option.some (Go.Eng.AV.sc (Go.Eng.SV.int Go.IntKind.i64 n1))), (Option.some (Go.Eng.AV.sc (Go.Eng.SV.int Go.IntKind.i64 n2)))] [(Option.some (Go.Eng.HE.mk Bool.false (Go.Eng.HB.rows (Go.Sa.B.u8 l))))] =
      s_spec_Crypt_0 N s3 b n1 n2 l (fun n1 n2 l => AG [(Option.some (Go.Eng.AV.sc (Go.Eng.SV.str s3))), (Option.some (Go.Eng.AV.sc (Go.Eng.SV.slc 0 Option.none b))), (Option.some (Go.Eng.AV.sc (Go.Eng.SV.int Go.IntKind.i64 n1))), (Option.some (Go.Eng.AV.sc (Go.Eng.SV.int Go.IntKind.i64 n2)))] [(Option.some (Go.Eng.HE.mk Bool.false (Go.Eng.HB.rows (Go.Sa.B.u8 l))))])  (fun l2 => KL Go.Eng.Ex.normal [(Option.some (Go.Eng.AV.sc (Go.Eng.SV.slc 0 Option.none b)))] [(Option.some (Go.Eng.HE.mk Bool.false (Go.Eng.HB.rows (Go.Sa.B.u8 l2))))]) := castPr (by kernel_rfl) (ea_se_spec_Crypt_0 N (g_spec_Mix N) (g_spec_PutWord N) s3 b n1 n2 l AG KL)
theorem le_spec_Crypt_0 (N : Nat) {R : Type} (s3 : ByteArray) (b : Bool) (KL : Ex → List (Option AV) → Hp E → Option R) : ∀ (f : Nat), ∀ (n1 : Int) (n2 : Int) (l : List Int), iterK (E := E) (O_spec_Crypt N) (fun {R} => LI (noIt) 0 57 sl_spec_Crypt (R := R)) J_spec_Crypt 0 57 0 [7, 8, 9, 10] [8] (body Go.Proofs.Try.f41 0) f [(Option.some (Go.Eng.AV.sc (Go.Eng.SV.str s3))), (Option.some (Go.Eng.AV.sc (Go.Eng.SV.slc 0 Option.none b))), (Option.some (Go.Eng.AV.sc (Go.Eng.SV.int Go.IntKind.i64 n1))), (Option.some (Go.Eng.AV.sc (Go.Eng.SV.int Go.IntKind.i64 n2)))] [(Option.some (Go.Eng.HE.mk Bool.false (Go.Eng.HB.rows (Go.Sa.B.u8 l))))] KL = l_spec_Crypt_0 N s3 b (fun l2 => KL Go.Eng.Ex.normal [(Option.some (Go.Eng.AV.sc (Go.Eng.SV.slc 0 Option.none b)))] [(Option.some (Go.Eng.HE.mk Bool.false (Go.Eng.HB.rows (Go.Sa.B.u8 l2))))]) f n1 n2 l := by
  intro f
  induction f with
  | zero => intros; rfl
  | succ f ih =>
    intro n1 n2 l
    rw [iterK_succ, se_spec_Crypt_0]
    exact (congrArg (fun z0 => s_spec_Crypt_0 N s3 b n1 n2 l z0 (fun l2 => KL Go.Eng.Ex.normal [(Option.some (Go.Eng.AV.sc (Go.Eng.SV.slc 0 Option.none b)))] [(Option.some (Go.Eng.HE.mk Bool.false (Go.Eng.HB.rows (Go.Sa.B.u8 l2))))])) (funext fun n1 => funext fun n2 => funext fun l => ih n1 n2 l))
def i_spec_Crypt_0 (N : Nat) {R : Type} (vs : List (Option AV)) (H : Hp E) (KL : Ex → List (Option AV) → Hp E → Option R) : Option R :=
  match vs, H with
  | [(Option.some (Go.Eng.AV.sc (Go.Eng.SV.str s3))), (Option.some (Go.Eng.AV.sc (Go.Eng.SV.slc 0 Option.none b))), (Option.some (Go.Eng.AV.sc (Go.Eng.SV.int Go.IntKind.i64 n1))), (Option.some (Go.Eng.AV.sc (Go.Eng.SV.int Go.IntKind.i64 n2)))], [(Option.some (Go.Eng.HE.mk Bool.false (Go.Eng.HB.rows (Go.Sa.B.u8 l))))] => c_spec_Crypt_0 N s3 b n1 n2 l (fun l3 => KL Go.Eng.Ex.normal [(Option.some (Go.Eng.AV.sc (Go.Eng.SV.slc 0 Option.none b)))] [(Option.some (Go.Eng.HE.mk Bool.false (Go.Eng.HB.rows (Go.Sa.B.u8 l3))))])
  | _, _ => none
noncomputable def IT_spec_Crypt_0 (N : Nat) : Its E := addIt 0 (i_spec_Crypt_0 N) (noIt)
theorem IT_spec_Crypt_0_ok (N : Nat) : ItOk (IT_spec_Crypt_0 N) 0 57 sl_spec_Crypt (lsB Go.Proofs.Try.f41 [0]) :=
  addItB_ok (inner := []) ok (O_spec_Crypt_ok N) (jn_ok _ _ _) (noIt_ok) rfl (by kernel_rfl) rfl fun vs H KL r h => by
    unfold i_spec_Crypt_0 at h
    split at h
    · exact ⟨_, (le_spec_Crypt_0 N _ _ KL N _ _ _).trans h⟩
    · cases h
def g_spec_Crypt (N : Nat) {R : Type} (s : ByteArray) (n : Int) (s1 : ByteArray) (k : ByteArray → Option R) : Option R :=
  (oK (cond (decide (((((ByteArray.size s) : Nat) : Int) > (4096 : Int))))
    (some Bool.true)
    (some (decide (((((ByteArray.size s1) : Nat) : Int) > (65536 : Int)))))) fun j =>
  (cond j
  (k (ByteArray.mk (List.toArray [])))
  (g_spec_PutWord N n fun s2 =>
    (cond (Nat.ble ((ByteArray.size s) + (ByteArray.size s2)) 9223372036854775807)
    (c_spec_Crypt_0 N (s ++ s2) Bool.false (0 : Int) (0 : Int) (Go.Eng.ofBytes s1) fun l1 =>
      (cond (Nat.ble (0 + (List.length l1)) (List.length l1))
      (k (Go.Eng.toBytes (Go.Eng.seg l1 0 (List.length l1))))
      none))
    none))))
def ga_g_spec_Crypt (N : Nat) (G_spec_Mix : ∀ {R : Type} (s : ByteArray) (n : Int) (k : Int → Option R), Option R) (G_spec_PutWord : ∀ {R : Type} (n : Int) (k : ByteArray → Option R), Option R) {R : Type} (s : ByteArray) (n : Int) (s1 : ByteArray) (k : ByteArray → Option R) : Option R :=
  (oK (cond (decide (((((ByteArray.size s) : Nat) : Int) > (4096 : Int))))
    (some Bool.true)
    (some (decide (((((ByteArray.size s1) : Nat) : Int) > (65536 : Int)))))) fun j =>
  (cond j
  (k (ByteArray.mk (List.toArray [])))
  (G_spec_PutWord n fun s2 =>
    (cond (Nat.ble ((ByteArray.size s) + (ByteArray.size s2)) 9223372036854775807)
    (c_spec_Crypt_0 N (s ++ s2) Bool.false (0 : Int) (0 : Int) (Go.Eng.ofBytes s1) fun l1 =>
      (cond (Nat.ble (0 + (List.length l1)) (List.length l1))
      (k (Go.Eng.toBytes (Go.Eng.seg l1 0 (List.length l1))))
      none))
    none))))
theorem ea_e_spec_Crypt (N : Nat) (G_spec_Mix : ∀ {R : Type} (s : ByteArray) (n : Int) (k : Int → Option R), Option R) (G_spec_PutWord : ∀ {R : Type} (n : Int) (k : ByteArray → Option R), Option R) {R : Type} (s : ByteArray) (n : Int) (s1 : ByteArray) (K : AV → Hp E → Option R) :
    runFnI (E := E) (OA_spec_Crypt N G_spec_Mix G_spec_PutWord) (IT_spec_Crypt_0 N) sl_spec_Crypt J_spec_Crypt Go.Proofs.Try.f41 [(Go.Eng.AV.sc (Go.Eng.SV.str s)), (Go.Eng.AV.sc (Go.Eng.SV.int Go.IntKind.i64 n)), (Go.Eng.AV.sc (Go.Eng.SV.str s1))] [] K =
      ga_g_spec_Crypt N G_spec_Mix G_spec_PutWord s n s1 (fun s5 => K (Go.Eng.AV.sc (Go.Eng.SV.str s5)) []) := by kernel_rfl
theorem e_spec_Crypt (N : Nat) {R : Type} (s : ByteArray) (n : Int) (s1 : ByteArray) (K : AV → Hp E → Option R) :
    runFnI (E := E) (O_spec_Crypt N) (IT_spec_Crypt_0 N) sl_spec_Crypt J_spec_Crypt Go.Proofs.Try.f41 [(Go.Eng.AV.sc (Go.Eng.SV.str s)), (Go.Eng.AV.sc (Go.Eng.SV.int Go.IntKind.i64 n)), (Go.Eng.AV.sc (Go.Eng.SV.str s1))] [] K =
      g_spec_Crypt N s n s1 (fun s5 => K (Go.Eng.AV.sc (Go.Eng.SV.str s5)) []) := castPr (by kernel_rfl) (ea_e_spec_Crypt N (g_spec_Mix N) (g_spec_PutWord N) s n s1 K)
def o_spec_Crypt (N : Nat) {R : Type} (args : List AV) (H : Hp E) (K : AV → Hp E → Option R) : Option R :=
  match args, H with
  | [(Go.Eng.AV.sc (Go.Eng.SV.str s)), (Go.Eng.AV.sc (Go.Eng.SV.int Go.IntKind.i64 n)), (Go.Eng.AV.sc (Go.Eng.SV.str s1))], [] => g_spec_Crypt N s n s1 (fun s5 => K (Go.Eng.AV.sc (Go.Eng.SV.str s5)) [])
  | _, _ => none
theorem o_spec_Crypt_ok (N : Nat) : FnOk E 41 (o_spec_Crypt N) := by
  intro R args H K r h
  unfold o_spec_Crypt at h
  dsimp only at h
  split at h
  · exact fnB_ok (ids := [0]) (top := [0]) ok (O_spec_Crypt_ok N) (jn_ok _ _ _) Go.Proofs.Try.func41 (by kernel_rfl) (IT := IT_spec_Crypt_0 N) (sl := sl_spec_Crypt) (J := J_spec_Crypt) (K := K) (H := []) (IT_spec_Crypt_0_ok N) (by kernel_rfl) rfl ((e_spec_Crypt N _ _ _ K).trans h)
  · cases h
/-! ### loop.example/g00038/spec.TagOf -/
abbrev sl_spec_TagOf : SlotT := []
abbrev J_spec_TagOf : JT := jn [(1, [(12, .b)])] [] []
noncomputable def O_spec_TagOf (N : Nat) : Orc E := addFn 93 (o_spec_PutWord N) (addFn 74 (o_spec_Mix N) (noFn))
theorem O_spec_TagOf_ok (N : Nat) : OrcOk (O_spec_TagOf N) := addFn_ok (o_spec_PutWord_ok N) (addFn_ok (o_spec_Mix_ok N) (noFn_ok))
def g_spec_TagOf (N : Nat) {R : Type} (s : ByteArray) (s1 : ByteArray) (k : ByteArray → Option R) : Option R :=
  (oK (cond (decide (((((ByteArray.size s) : Nat) : Int) > (4096 : Int))))
    (some Bool.true)
    (some (decide (((((ByteArray.size s1) : Nat) : Int) > (4096 : Int)))))) fun j =>
  (cond j
  (k (ByteArray.mk (List.toArray [])))
  (cond (Nat.ble ((ByteArray.size s) + (ByteArray.size s1)) 9223372036854775807)
    (g_spec_Mix N (s ++ s1) (21 : Int) fun n =>
      (g_spec_PutWord N n fun s2 =>
      (cond (Nat.ble ((ByteArray.size s1) + (ByteArray.size s)) 9223372036854775807)
      (g_spec_Mix N (s1 ++ s) (22 : Int) fun n1 =>
        (g_spec_PutWord N n1 fun s3 =>
        (cond (Nat.ble ((ByteArray.size s2) + (ByteArray.size s3)) 9223372036854775807)
        (k (s2 ++ s3))
        none)))
      none)))
    none)))
theorem e_spec_TagOf (N : Nat) {R : Type} (s : ByteArray) (s1 : ByteArray) (K : AV → Hp E → Option R) :
    runFnI (E := E) (O_spec_TagOf N) (noIt) sl_spec_TagOf J_spec_TagOf Go.Proofs.Try.f56 [(Go.Eng.AV.sc (Go.Eng.SV.str s)), (Go.Eng.AV.sc (Go.Eng.SV.str s1))] [] K =
      g_spec_TagOf N s s1 (fun s4 => K (Go.Eng.AV.sc (Go.Eng.SV.str s4)) []) := by kernel_rfl
def o_spec_TagOf (N : Nat) {R : Type} (args : List AV) (H : Hp E) (K : AV → Hp E → Option R) : Option R :=
  match args, H with
  | [(Go.Eng.AV.sc (Go.Eng.SV.str s)), (Go.Eng.AV.sc (Go.Eng.SV.str s1))], [] => g_spec_TagOf N s s1 (fun s4 => K (Go.Eng.AV.sc (Go.Eng.SV.str s4)) [])
  | _, _ => none
theorem o_spec_TagOf_ok (N : Nat) : FnOk E 56 (o_spec_TagOf N) := by
  intro R args H K r h
  unfold o_spec_TagOf at h
  dsimp only at h
  split at h
  · exact fnB_ok (ids := []) (top := []) ok (O_spec_TagOf_ok N) (jn_ok _ _ _) Go.Proofs.Try.func56 (by kernel_rfl) (IT := noIt) (sl := sl_spec_TagOf) (J := J_spec_TagOf) (K := K) (H := []) (noIt_ok) (by kernel_rfl) rfl ((e_spec_TagOf N _ _ K).trans h)
  · cases h
/-! ### loop.example/g00038/spec.l15Slot -/
abbrev sl_spec_l15Slot : SlotT := []
abbrev J_spec_l15Slot : JT := jn [] [] []
noncomputable def O_spec_l15Slot (N : Nat) : Orc E := addFn 56 (o_spec_TagOf N) (addFn 41 (o_spec_Crypt N) (noFn))
def pa_spec_l15Slot__o_spec_TagOf (N : Nat) (G_spec_TagOf : ∀ {R : Type} (s : ByteArray) (s1 : ByteArray) (k : ByteArray → Option R), Option R) (G_spec_Crypt : ∀ {R : Type} (s : ByteArray) (n : Int) (s1 : ByteArray) (k : ByteArray → Option R), Option R) {R : Type} (args : List AV) (H : Hp E) (K : AV → Hp E → Option R) : Option R :=
  match args, H with
  | [(Go.Eng.AV.sc (Go.Eng.SV.str s)), (Go.Eng.AV.sc (Go.Eng.SV.str s1))], [] => G_spec_TagOf s s1 (fun s4 => K (Go.Eng.AV.sc (Go.Eng.SV.str s4)) [])
  | _, _ => none
def pa_spec_l15Slot__o_spec_Crypt (N : Nat) (G_spec_TagOf : ∀ {R : Type} (s : ByteArray) (s1 : ByteArray) (k : ByteArray → Option R), Option R) (G_spec_Crypt : ∀ {R : Type} (s : ByteArray) (n : Int) (s1 : ByteArray) (k : ByteArray → Option R), Option R) {R : Type} (args : List AV) (H : Hp E) (K : AV → Hp E → Option R) : Option R :=
  match args, H with
  | [(Go.Eng.AV.sc (Go.Eng.SV.str s)), (Go.Eng.AV.sc (Go.Eng.SV.int Go.IntKind.i64 n)), (Go.Eng.AV.sc (Go.Eng.SV.str s1))], [] => G_spec_Crypt s n s1 (fun s5 => K (Go.Eng.AV.sc (Go.Eng.SV.str s5)) [])
  | _, _ => none
noncomputable def OA_spec_l15Slot (N : Nat) (G_spec_TagOf : ∀ {R : Type} (s : ByteArray) (s1 : ByteArray) (k : ByteArray → Option R), Option R) (G_spec_Crypt : ∀ {R : Type} (s : ByteArray) (n : Int) (s1 : ByteArray) (k : ByteArray → Option R), Option R) : Orc E := addFn 56 (pa_spec_l15Slot__o_spec_TagOf N G_spec_TagOf G_spec_Crypt) (addFn 41 (pa_spec_l15Slot__o_spec_Crypt N G_spec_TagOf G_spec_Crypt) (noFn))
theorem O_spec_l15Slot_ok (N : Nat) : OrcOk (O_spec_l15Slot N) := addFn_ok (o_spec_TagOf_ok N) (addFn_ok (o_spec_Crypt_ok N) (noFn_ok))
def g_spec_l15Slot (N : Nat) {R : Type} (s : ByteArray) (s1 : ByteArray) (n : Int) (k : ByteArray → ByteArray → Option R) : Option R :=
  (g_spec_Crypt N s1 n s fun s2 =>
  (g_spec_TagOf N s1 s2 fun s3 =>
  (k s2 s3)))
def ga_g_spec_l15Slot (N : Nat) (G_spec_TagOf : ∀ {R : Type} (s : ByteArray) (s1 : ByteArray) (k : ByteArray → Option R), Option R) (G_spec_Crypt : ∀ {R : Type} (s : ByteArray) (n : Int) (s1 : ByteArray) (k : ByteArray → Option R), Option R) {R : Type} (s : ByteArray) (s1 : ByteArray) (n : Int) (k : ByteArray → ByteArray → Option R) : Option R :=
  (G_spec_Crypt s1 n s fun s2 =>
  (G_spec_TagOf s1 s2 fun s3 =>
  (k s2 s3)))
theorem ea_e_spec_l15Slot (N : Nat) (G_spec_TagOf : ∀ {R : Type} (s : ByteArray) (s1 : ByteArray) (k : ByteArray → Option R), Option R) (G_spec_Crypt : ∀ {R : Type} (s : ByteArray) (n : Int) (s1 : ByteArray) (k : ByteArray → Option R), Option R) {R : Type} (s : ByteArray) (s1 : ByteArray) (n : Int) (K : AV → Hp E → Option R) :
    runFnI (E := E) (OA_spec_l15Slot N G_spec_TagOf G_spec_Crypt) (noIt) sl_spec_l15Slot J_spec_l15Slot Go.Proofs.Try.f79 [(Go.Eng.AV.sc (Go.Eng.SV.str s)), (Go.Eng.AV.sc (Go.Eng.SV.str s1)), (Go.Eng.AV.sc (Go.Eng.SV.int Go.IntKind.i64 n))] [] K =
      ga_g_spec_l15Slot N G_spec_TagOf G_spec_Crypt s s1 n (fun s4 s5 => K (Go.Eng.AV.agg [(Go.Eng.SV.int Go.IntKind.i64 n), (Go.Eng.SV.str s4), (Go.Eng.SV.str s5)]) []) := by kernel_rfl
theorem e_spec_l15Slot (N : Nat) {R : Type} (s : ByteArray) (s1 : ByteArray) (n : Int) (K : AV → Hp E → Option R) :
    runFnI (E := E) (O_spec_l15Slot N) (noIt) sl_spec_l15Slot J_spec_l15Slot Go.Proofs.Try.f79 [(Go.Eng.AV.sc (Go.Eng.SV.str s)), (Go.Eng.AV.sc (Go.Eng.SV.str s1)), (Go.Eng.AV.sc (Go.Eng.SV.int Go.IntKind.i64 n))] [] K =
      g_spec_l15Slot N s s1 n (fun s4 s5 => K (Go.Eng.AV.agg [(Go.Eng.SV.int Go.IntKind.i64 n), (Go.Eng.SV.str s4), (Go.Eng.SV.str s5)]) []) := castPr (by kernel_rfl) (ea_e_spec_l15Slot N (g_spec_TagOf N) (g_spec_Crypt N) s s1 n K)
def o_spec_l15Slot (N : Nat) {R : Type} (args : List AV) (H : Hp E) (K : AV → Hp E → Option R) : Option R :=
  match args, H with
  | [(Go.Eng.AV.sc (Go.Eng.SV.str s)), (Go.Eng.AV.sc (Go.Eng.SV.str s1)), (Go.Eng.AV.sc (Go.Eng.SV.int Go.IntKind.i64 n))], [] => g_spec_l15Slot N s s1 n (fun s4 s5 => K (Go.Eng.AV.agg [(Go.Eng.SV.int Go.IntKind.i64 n), (Go.Eng.SV.str s4), (Go.Eng.SV.str s5)]) [])
  | _, _ => none
theorem o_spec_l15Slot_ok (N : Nat) : FnOk E 79 (o_spec_l15Slot N) := by
  intro R args H K r h
  unfold o_spec_l15Slot at h
  dsimp only at h
  split at h
  · exact fnB_ok (ids := []) (top := []) ok (O_spec_l15Slot_ok N) (jn_ok _ _ _) Go.Proofs.Try.func79 (by kernel_rfl) (IT := noIt) (sl := sl_spec_l15Slot) (J := J_spec_l15Slot) (K := K) (H := []) (noIt_ok) (by kernel_rfl) rfl ((e_spec_l15Slot N _ _ _ K).trans h)
  · cases h
/-! ### loop.example/g00038/spec.MakeVolume -/
abbrev sl_spec_MakeVolume : SlotT := []
abbrev J_spec_MakeVolume : JT := jn [(1, [(14, .b)]), (3, [(23, .b)])] [] []
noncomputable def O_spec_MakeVolume (N : Nat) : Orc E := addFn 56 (o_spec_TagOf N) (addFn 79 (o_spec_l15Slot N) (addFn 78 (o_spec_l01IsWord N) (noFn)))
def pa_spec_MakeVolume__o_spec_TagOf (N : Nat) (G_spec_TagOf : ∀ {R : Type} (s : ByteArray) (s1 : ByteArray) (k : ByteArray → Option R), Option R) (G_spec_l15Slot : ∀ {R : Type} (s : ByteArray) (s1 : ByteArray) (n : Int) (k : ByteArray → ByteArray → Option R), Option R) (G_spec_l01IsWord : ∀ {R : Type} (n : Int) (k : Bool → Option R), Option R) {R : Type} (args : List AV) (H : Hp E) (K : AV → Hp E → Option R) : Option R :=
  match args, H with
  | [(Go.Eng.AV.sc (Go.Eng.SV.str s)), (Go.Eng.AV.sc (Go.Eng.SV.str s1))], [] => G_spec_TagOf s s1 (fun s4 => K (Go.Eng.AV.sc (Go.Eng.SV.str s4)) [])
  | _, _ => none
def pa_spec_MakeVolume__o_spec_l15Slot (N : Nat) (G_spec_TagOf : ∀ {R : Type} (s : ByteArray) (s1 : ByteArray) (k : ByteArray → Option R), Option R) (G_spec_l15Slot : ∀ {R : Type} (s : ByteArray) (s1 : ByteArray) (n : Int) (k : ByteArray → ByteArray → Option R), Option R) (G_spec_l01IsWord : ∀ {R : Type} (n : Int) (k : Bool → Option R), Option R) {R : Type} (args : List AV) (H : Hp E) (K : AV → Hp E → Option R) : Option R :=
  match args, H with
  | [(Go.Eng.AV.sc (Go.Eng.SV.str s)), (Go.Eng.AV.sc (Go.Eng.SV.str s1)), (Go.Eng.AV.sc (Go.Eng.SV.int Go.IntKind.i64 n))], [] => G_spec_l15Slot s s1 n (fun s4 s5 => K (Go.Eng.AV.agg [(Go.Eng.SV.int Go.IntKind.i64 n), (Go.Eng.SV.str s4), (Go.Eng.SV.str s5)]) [])
  | _, _ => none
def pa_spec_MakeVolume__o_spec_l01IsWord (N : Nat) (G_spec_TagOf : ∀ {R : Type} (s : ByteArray) (s1 : ByteArray) (k : ByteArray → Option R), Option R) (G_spec_l15Slot : ∀ {R : Type} (s : ByteArray) (s1 : ByteArray) (n : Int) (k : ByteArray → ByteArray → Option R), Option R) (G_spec_l01IsWord : ∀ {R : Type} (n : Int) (k : Bool → Option R), Option R) {R : Type} (args : List AV) (H : Hp E) (K : AV → Hp E → Option R) : Option R :=
  match args, H with
  | [(Go.Eng.AV.sc (Go.Eng.SV.int Go.IntKind.i64 n))], [] => G_spec_l01IsWord n (fun b => K (Go.Eng.AV.sc (Go.Eng.SV.bool b)) [])
  | _, _ => none
noncomputable def OA_spec_MakeVolume (N : Nat) (G_spec_TagOf : ∀ {R : Type} (s : ByteArray) (s1 : ByteArray) (k : ByteArray → Option R), Option R) (G_spec_l15Slot : ∀ {R : Type} (s : ByteArray) (s1 : ByteArray) (n : Int) (k : ByteArray → ByteArray → Option R), Option R) (G_spec_l01IsWord : ∀ {R : Type} (n : Int) (k : Bool → Option R), Option R) : Orc E := addFn 56 (pa_spec_MakeVolume__o_spec_TagOf N G_spec_TagOf G_spec_l15Slot G_spec_l01IsWord) (addFn 79 (pa_spec_MakeVolume__o_spec_l15Slot N G_spec_TagOf G_spec_l15Slot G_spec_l01IsWord) (addFn 78 (pa_spec_MakeVolume__o_spec_l01IsWord N G_spec_TagOf G_spec_l15Slot G_spec_l01IsWord) (noFn)))
theorem O_spec_MakeVolume_ok (N : Nat) : OrcOk (O_spec_MakeVolume N) := addFn_ok (o_spec_TagOf_ok N) (addFn_ok (o_spec_l15Slot_ok N) (addFn_ok (o_spec_l01IsWord_ok N) (noFn_ok)))
def g_spec_MakeVolume (N : Nat) {R : Type} (s : ByteArray) (s1 : ByteArray) (n : Int) (k : Int → Bool → ByteArray → (List Go.Sa.KeySlot) → Option R) : Option R :=
  (oK (cond (decide (((((ByteArray.size s) : Nat) : Int) > (4096 : Int))))
    (some Bool.true)
    (some (decide (((((ByteArray.size s1) : Nat) : Int) > (4096 : Int)))))) fun j =>
  (cond j
  (k (2 : Int) Bool.true (ByteArray.mk (List.toArray [])) [])
  (oK (cond ((((ByteArray.size s) : Nat) : Int) != (16 : Int))
      (some Bool.true)
      (g_spec_l01IsWord N n fun b =>
        (some (!b)))) fun j1 =>
    (cond j1
    (k (1 : Int) Bool.true (ByteArray.mk (List.toArray [])) [])
    (g_spec_l15Slot N s s1 n fun s2 s3 =>
      (g_spec_TagOf N s (ByteArray.mk (List.toArray [])) fun s4 =>
      (k (0 : Int) Bool.false s4 [(Go.Sa.KeySlot.mk n s2 s3)])))))))
def ga_g_spec_MakeVolume (N : Nat) (G_spec_TagOf : ∀ {R : Type} (s : ByteArray) (s1 : ByteArray) (k : ByteArray → Option R), Option R) (G_spec_l15Slot : ∀ {R : Type} (s : ByteArray) (s1 : ByteArray) (n : Int) (k : ByteArray → ByteArray → Option R), Option R) (G_spec_l01IsWord : ∀ {R : Type} (n : Int) (k : Bool → Option R), Option R) {R : Type} (s : ByteArray) (s1 : ByteArray) (n : Int) (k : Int → Bool → ByteArray → (List Go.Sa.KeySlot) → Option R) : Option R :=
  (oK (cond (decide (((((ByteArray.size s) : Nat) : Int) > (4096 : Int))))
    (some Bool.true)
    (some (decide (((((ByteArray.size s1) : Nat) : Int) > (4096 : Int)))))) fun j =>
  (cond j
  (k (2 : Int) Bool.true (ByteArray.mk (List.toArray [])) [])
  (oK (cond ((((ByteArray.size s) : Nat) : Int) != (16 : Int))
      (some Bool.true)
      (G_spec_l01IsWord n fun b =>
        (some (!b)))) fun j1 =>
    (cond j1
    (k (1 : Int) Bool.true (ByteArray.mk (List.toArray [])) [])
    (G_spec_l15Slot s s1 n fun s2 s3 =>
      (G_spec_TagOf s (ByteArray.mk (List.toArray [])) fun s4 =>
      (k (0 : Int) Bool.false s4 [(Go.Sa.KeySlot.mk n s2 s3)])))))))
theorem ea_e_spec_MakeVolume (N : Nat) (G_spec_TagOf : ∀ {R : Type} (s : ByteArray) (s1 : ByteArray) (k : ByteArray → Option R), Option R) (G_spec_l15Slot : ∀ {R : Type} (s : ByteArray) (s1 : ByteArray) (n : Int) (k : ByteArray → ByteArray → Option R), Option R) (G_spec_l01IsWord : ∀ {R : Type} (n : Int) (k : Bool → Option R), Option R) {R : Type} (s : ByteArray) (s1 : ByteArray) (n : Int) (K : AV → Hp E → Option R) :
    runFnI (E := E) (OA_spec_MakeVolume N G_spec_TagOf G_spec_l15Slot G_spec_l01IsWord) (noIt) sl_spec_MakeVolume J_spec_MakeVolume Go.Proofs.Try.f29 [(Go.Eng.AV.sc (Go.Eng.SV.str s)), (Go.Eng.AV.sc (Go.Eng.SV.str s1)), (Go.Eng.AV.sc (Go.Eng.SV.int Go.IntKind.i64 n))] [] K =
      ga_g_spec_MakeVolume N G_spec_TagOf G_spec_l15Slot G_spec_l01IsWord s s1 n (fun n1 b1 s5 l => K (Go.Eng.AV.agg [(Go.Eng.SV.int Go.IntKind.i64 n1), (Go.Eng.SV.slc 0 Option.none b1), (Go.Eng.SV.str s5)]) [(Option.some (Go.Eng.HE.mk Bool.false (Go.Eng.HB.rows (Go.Sa.B.iKeySlot l))))]) := by kernel_rfl
theorem e_spec_MakeVolume (N : Nat) {R : Type} (s : ByteArray) (s1 : ByteArray) (n : Int) (K : AV → Hp E → Option R) :
    runFnI (E := E) (O_spec_MakeVolume N) (noIt) sl_spec_MakeVolume J_spec_MakeVolume Go.Proofs.Try.f29 [(Go.Eng.AV.sc (Go.Eng.SV.str s)), (Go.Eng.AV.sc (Go.Eng.SV.str s1)), (Go.Eng.AV.sc (Go.Eng.SV.int Go.IntKind.i64 n))] [] K =
      g_spec_MakeVolume N s s1 n (fun n1 b1 s5 l => K (Go.Eng.AV.agg [(Go.Eng.SV.int Go.IntKind.i64 n1), (Go.Eng.SV.slc 0 Option.none b1), (Go.Eng.SV.str s5)]) [(Option.some (Go.Eng.HE.mk Bool.false (Go.Eng.HB.rows (Go.Sa.B.iKeySlot l))))]) := castPr (by kernel_rfl) (ea_e_spec_MakeVolume N (g_spec_TagOf N) (g_spec_l15Slot N) (g_spec_l01IsWord N) s s1 n K)
def o_spec_MakeVolume (N : Nat) {R : Type} (args : List AV) (H : Hp E) (K : AV → Hp E → Option R) : Option R :=
  match args, H with
  | [(Go.Eng.AV.sc (Go.Eng.SV.str s)), (Go.Eng.AV.sc (Go.Eng.SV.str s1)), (Go.Eng.AV.sc (Go.Eng.SV.int Go.IntKind.i64 n))], [] => g_spec_MakeVolume N s s1 n (fun n1 b1 s5 l => K (Go.Eng.AV.agg [(Go.Eng.SV.int Go.IntKind.i64 n1), (Go.Eng.SV.slc 0 Option.none b1), (Go.Eng.SV.str s5)]) [(Option.some (Go.Eng.HE.mk Bool.false (Go.Eng.HB.rows (Go.Sa.B.iKeySlot l))))])
  | _, _ => none
theorem o_spec_MakeVolume_ok (N : Nat) : FnOk E 29 (o_spec_MakeVolume N) := by
  intro R args H K r h
  unfold o_spec_MakeVolume at h
  dsimp only at h
  split at h
  · exact fnB_ok (ids := []) (top := []) ok (O_spec_MakeVolume_ok N) (jn_ok _ _ _) Go.Proofs.Try.func29 (by kernel_rfl) (IT := noIt) (sl := sl_spec_MakeVolume) (J := J_spec_MakeVolume) (K := K) (H := []) (noIt_ok) (by kernel_rfl) rfl ((e_spec_MakeVolume N _ _ _ K).trans h)
  · cases h
/-! ### loop.example/g00038/spec.VolumeFault -/
abbrev sl_spec_VolumeFault_r : SlotT := [(0, ([1, 3], [2]))]
abbrev J_spec_VolumeFault_r : JT := jn [(1, [(20, .b)]), (7, [(48, .b)])] [] []
noncomputable def O_spec_VolumeFault_r (N : Nat) : Orc E := addFn 78 (o_spec_l01IsWord N) (noFn)
def pa_spec_VolumeFault_r__o_spec_l01IsWord (N : Nat) (G_spec_l01IsWord : ∀ {R : Type} (n : Int) (k : Bool → Option R), Option R) {R : Type} (args : List AV) (H : Hp E) (K : AV → Hp E → Option R) : Option R :=
  match args, H with
  | [(Go.Eng.AV.sc (Go.Eng.SV.int Go.IntKind.i64 n))], [] => G_spec_l01IsWord n (fun b => K (Go.Eng.AV.sc (Go.Eng.SV.bool b)) [])
  | _, _ => none
noncomputable def OA_spec_VolumeFault_r (N : Nat) (G_spec_l01IsWord : ∀ {R : Type} (n : Int) (k : Bool → Option R), Option R) : Orc E := addFn 78 (pa_spec_VolumeFault_r__o_spec_l01IsWord N G_spec_l01IsWord) (noFn)
theorem O_spec_VolumeFault_r_ok (N : Nat) : OrcOk (O_spec_VolumeFault_r N) := addFn_ok (o_spec_l01IsWord_ok N) (noFn_ok)
def s_spec_VolumeFault_r_0 (N : Nat) {R : Type} (l1 : List Go.Sa.KeySlot) (b1 : Bool) (s1 : ByteArray) (n : Int) (ag : Int → Option R)  (kR : Option R) (kN : Option R) : Option R :=
  (cond (decide ((n < (((List.length l1) : Nat) : Int))))
  (cond ((decide (((0 : Int) ≤ n))) && (decide ((n < (((List.length l1) : Nat) : Int)))))
    (elemK l1 (Int.toNat n) fun x =>
      (oK (g_spec_l01IsWord N (Go.Sa.KeySlot.fSalt x) fun b2 =>
        (cond (!b2)
        (some Bool.true)
        (cond ((((ByteArray.size (Go.Sa.KeySlot.fKey x)) : Nat) : Int) != (16 : Int))
          (some Bool.true)
          (some ((((ByteArray.size (Go.Sa.KeySlot.fTag x)) : Nat) : Int) != (8 : Int)))))) fun j1 =>
      (cond j1
      kR
      (ag (Go.IntKind.wrap Go.IntKind.i64 (n + (1 : Int)))))))
    none)
  kN)
def ga_s_spec_VolumeFault_r_0 (N : Nat) (G_spec_l01IsWord : ∀ {R : Type} (n : Int) (k : Bool → Option R), Option R) {R : Type} (l1 : List Go.Sa.KeySlot) (b1 : Bool) (s1 : ByteArray) (n : Int) (ag : Int → Option R)  (kR : Option R) (kN : Option R) : Option R :=
  (cond (decide ((n < (((List.length l1) : Nat) : Int))))
  (cond ((decide (((0 : Int) ≤ n))) && (decide ((n < (((List.length l1) : Nat) : Int)))))
    (elemK l1 (Int.toNat n) fun x =>
      (oK (G_spec_l01IsWord (Go.Sa.KeySlot.fSalt x) fun b2 =>
        (cond (!b2)
        (some Bool.true)
        (cond ((((ByteArray.size (Go.Sa.KeySlot.fKey x)) : Nat) : Int) != (16 : Int))
          (some Bool.true)
          (some ((((ByteArray.size (Go.Sa.KeySlot.fTag x)) : Nat) : Int) != (8 : Int)))))) fun j1 =>
      (cond j1
      kR
      (ag (Go.IntKind.wrap Go.IntKind.i64 (n + (1 : Int)))))))
    none)
  kN)
def l_spec_VolumeFault_r_0 (N : Nat) {R : Type} (l1 : List Go.Sa.KeySlot) (b1 : Bool) (s1 : ByteArray) (kR : Option R) (kN : Option R) : Nat → Int → Option R
  | 0, _ => none
  | f + 1, n => s_spec_VolumeFault_r_0 N l1 b1 s1 n (fun n => l_spec_VolumeFault_r_0 N l1 b1 s1 kR kN f n)  kR kN
def c_spec_VolumeFault_r_0 (N : Nat) {R : Type} (l1 : List Go.Sa.KeySlot) (b1 : Bool) (s1 : ByteArray) (n : Int) (kR : Option R) (kN : Option R) : Option R := l_spec_VolumeFault_r_0 N l1 b1 s1 kR kN N n
theorem ea_se_spec_VolumeFault_r_0 (N : Nat) (G_spec_l01IsWord : ∀ {R : Type} (n : Int) (k : Bool → Option R), Option R) {R : Type} (l1 : List Go.Sa.KeySlot) (b1 : Bool) (s1 : ByteArray) (n : Int) (AG : List (Option AV) → Hp E → Option R) (KL : Ex → List (Option AV) → Hp E → Option R) :
    iterStep (E := E) (OA_spec_VolumeFault_r N G_spec_l01IsWord) (fun {R} => LI (noIt) 1 49 sl_spec_VolumeFault_r (R := R)) J_spec_VolumeFault_r 1 49 0 [1, 3] [2] (body Go.Proofs.Try.f84 0) AG KL [(Option.some (Go.Eng.AV.sc (Go.Eng.SV.ptr 1 0 0))), (Option.some (Go.Eng.AV.sc (Go.Eng.SV.int Go.IntKind.i64 n)))] [(Option.some (Go.Eng.HE.mk Bool.true (Go.Eng.HB.rows (Go.Sa.B.iKeySlot l1)))), (Option.some (Go.Eng.HE.mk Bool.false (Go.Eng.HB.exp Option.none [(Go.Eng.SV.slc 0 Option.none b1), (Go.Eng.SV.str s1)])))] =
      ga_s_spec_VolumeFault_r_0 N G_spec_l01IsWord l1 b1 s1 n (fun n => AG [(Option.some (Go.Eng.AV.sc (Go.Eng.SV.ptr 1 0 0))), (Option.some (Go.Eng.AV.sc (Go.Eng.SV.int Go.IntKind.i64 n)))] [(Option.some (Go.Eng.HE.mk Bool.true (Go.Eng.HB.rows (Go.Sa.B.iKeySlot l1)))), (Option.some (Go.Eng.HE.mk Bool.false (Go.Eng.HB.exp Option.none [(Go.Eng.SV.slc 0 Option.none b1), (Go.Eng.SV.str s1)])))])  (KL Go.Eng.Ex.ret [(Option.some (Go.Eng.AV.sc (Go.Eng.SV.int Go.IntKind.i64 (1 : Int))))] [(Option.some (Go.Eng.HE.mk Bool.true (Go.Eng.HB.rows (Go.Sa.B.iKeySlot l1))))]) (KL Go.Eng.Ex.normal [Option.none] [(Option.some (Go.Eng.HE.mk Bool.true (Go.Eng.HB.rows (Go.Sa.B.iKeySlot l1))))]) := by kernel_rfl
theorem se_spec_VolumeFault_r_0 (N : Nat) {R : Type} (l1 : List Go.Sa.KeySlot) (b1 : Bool) (s1 : ByteArray) (n : Int) (AG : List (Option AV) → Hp E → Option R) (KL : Ex → List (Option AV) → Hp E → Option R) :
    iterStep (E := E) (O_spec_VolumeFault_r N) (fun {R} => LI (noIt) 1 49 sl_spec_VolumeFault_r (R := R)) J_spec_VolumeFault_r 1 49 0 [1, 3] [2] (body Go.Proofs.Try.f84 0) AG KL [(Option.some (Go.Eng.AV.sc (Go.Eng.SV.ptr 1 0 0))), (Option.some (Go.Eng.AV.sc (Go.Eng.SV.int Go.IntKind.i64 n)))] [(Option.some (Go.Eng.HE.mk Bool.true (Go.Eng.HB.rows (Go.Sa.B.iKeySlot l1)))), (Option.some (Go.Eng.HE.mk Bool.false (Go.Eng.HB.exp Option.none [(Go.Eng.SV.slc 0 Option.none b1), (Go.Eng.SV.str s1)])))] =
      s_spec_VolumeFault_r_0 N l1 b1 s1 n (fun n => AG [(Option.some (Go.Eng.AV.sc (Go.Eng.SV.ptr 1 0 0))), (Option.some (Go.Eng.AV.sc (Go.Eng.SV.int Go.IntKind.i64 n)))] [(Option.some (Go.Eng.HE.mk Bool.true (Go.Eng.HB.rows (Go.Sa.B.iKeySlot l1)))), (Option.some (Go.Eng.HE.mk Bool.false (Go.Eng.HB.exp Option.none [(Go.Eng.SV.slc 0 Option.none b1), (Go.Eng.SV.str s1)])))])  (KL Go.Eng.Ex.ret [(Option.some (Go.Eng.AV.sc (Go.Eng.SV.int Go.IntKind.i64 (1 : Int))))] [(Option.some (Go.Eng.HE.mk Bool.true (Go.Eng.HB.rows (Go.Sa.B.iKeySlot l1))))]) (KL Go.Eng.Ex.normal [Option.none] [(Option.some (Go.Eng.HE.mk Bool.true (Go.Eng.HB.rows (Go.Sa.B.iKeySlot l1))))]) := castPr (by kernel_rfl) (ea_se_spec_VolumeFault_r_0 N (g_spec_l01IsWord N) l1 b1 s1 n AG KL)
theorem le_spec_VolumeFault_r_0 (N : Nat) {R : Type} (l1 : List Go.Sa.KeySlot) (b1 : Bool) (s1 : ByteArray) (KL : Ex → List (Option AV) → Hp E → Option R) : ∀ (f : Nat), ∀ (n : Int), iterK (E := E) (O_spec_VolumeFault_r N) (fun {R} => LI (noIt) 1 49 sl_spec_VolumeFault_r (R := R)) J_spec_VolumeFault_r 1 49 0 [1, 3] [2] (body Go.Proofs.Try.f84 0) f [(Option.some (Go.Eng.AV.sc (Go.Eng.SV.ptr 1 0 0))), (Option.some (Go.Eng.AV.sc (Go.Eng.SV.int Go.IntKind.i64 n)))] [(Option.some (Go.Eng.HE.mk Bool.true (Go.Eng.HB.rows (Go.Sa.B.iKeySlot l1)))), (Option.some (Go.Eng.HE.mk Bool.false (Go.Eng.HB.exp Option.none [(Go.Eng.SV.slc 0 Option.none b1), (Go.Eng.SV.str s1)])))] KL = l_spec_VolumeFault_r_0 N l1 b1 s1 (KL Go.Eng.Ex.ret [(Option.some (Go.Eng.AV.sc (Go.Eng.SV.int Go.IntKind.i64 (1 : Int))))] [(Option.some (Go.Eng.HE.mk Bool.true (Go.Eng.HB.rows (Go.Sa.B.iKeySlot l1))))]) (KL Go.Eng.Ex.normal [Option.none] [(Option.some (Go.Eng.HE.mk Bool.true (Go.Eng.HB.rows (Go.Sa.B.iKeySlot l1))))]) f n := by
  intro f
  induction f with
  | zero => intros; rfl
  | succ f ih =>
    intro n
    rw [iterK_succ, se_spec_VolumeFault_r_0]
    exact (congrArg (fun z0 => s_spec_VolumeFault_r_0 N l1 b1 s1 n z0 (KL Go.Eng.Ex.ret [(Option.some (Go.Eng.AV.sc (Go.Eng.SV.int Go.IntKind.i64 (1 : Int))))] [(Option.some (Go.Eng.HE.mk Bool.true (Go.Eng.HB.rows (Go.Sa.B.iKeySlot l1))))]) (KL Go.Eng.Ex.normal [Option.none] [(Option.some (Go.Eng.HE.mk Bool.true (Go.Eng.HB.rows (Go.Sa.B.iKeySlot l1))))])) (funext fun n => ih n))
def i_spec_VolumeFault_r_0 (N : Nat) {R : Type} (vs : List (Option AV)) (H : Hp E) (KL : Ex → List (Option AV) → Hp E → Option R) : Option R :=
  match vs, H with
  | [(Option.some (Go.Eng.AV.sc (Go.Eng.SV.ptr 1 0 0))), (Option.some (Go.Eng.AV.sc (Go.Eng.SV.int Go.IntKind.i64 n)))], [(Option.some (Go.Eng.HE.mk Bool.true (Go.Eng.HB.rows (Go.Sa.B.iKeySlot l1)))), (Option.some (Go.Eng.HE.mk Bool.false (Go.Eng.HB.exp Option.none [(Go.Eng.SV.slc 0 Option.none b1), (Go.Eng.SV.str s1)])))] => c_spec_VolumeFault_r_0 N l1 b1 s1 n (KL Go.Eng.Ex.ret [(Option.some (Go.Eng.AV.sc (Go.Eng.SV.int Go.IntKind.i64 (1 : Int))))] [(Option.some (Go.Eng.HE.mk Bool.true (Go.Eng.HB.rows (Go.Sa.B.iKeySlot l1))))]) (KL Go.Eng.Ex.normal [Option.none] [(Option.some (Go.Eng.HE.mk Bool.true (Go.Eng.HB.rows (Go.Sa.B.iKeySlot l1))))])
  | _, _ => none
noncomputable def IT_spec_VolumeFault_r_0 (N : Nat) : Its E := addIt 0 (i_spec_VolumeFault_r_0 N) (noIt)
theorem IT_spec_VolumeFault_r_0_ok (N : Nat) : ItOk (IT_spec_VolumeFault_r_0 N) 1 49 sl_spec_VolumeFault_r (lsB Go.Proofs.Try.f84 [0]) :=
  addItB_ok (inner := []) ok (O_spec_VolumeFault_r_ok N) (jn_ok _ _ _) (noIt_ok) rfl (by kernel_rfl) rfl fun vs H KL r h => by
    unfold i_spec_VolumeFault_r_0 at h
    split at h
    · exact ⟨_, (le_spec_VolumeFault_r_0 N _ _ _ KL N _).trans h⟩
    · cases h
def g_spec_VolumeFault_r (N : Nat) {R : Type} (b : Bool) (s : ByteArray) (l : List Go.Sa.KeySlot) (k : Int → Option R) : Option R :=
  (oK (cond (decide (((((List.length l) : Nat) : Int) < (1 : Int))))
    (some Bool.true)
    (cond (decide (((((List.length l) : Nat) : Int) > (4 : Int))))
      (some Bool.true)
      (some ((((ByteArray.size s) : Nat) : Int) != (8 : Int))))) fun j =>
  (cond j
  (k (1 : Int))
  (c_spec_VolumeFault_r_0 N l b s (0 : Int) (
    (k (1 : Int))) (
    (k (0 : Int))))))
def ga_g_spec_VolumeFault_r (N : Nat) (G_spec_l01IsWord : ∀ {R : Type} (n : Int) (k : Bool → Option R), Option R) {R : Type} (b : Bool) (s : ByteArray) (l : List Go.Sa.KeySlot) (k : Int → Option R) : Option R :=
  (oK (cond (decide (((((List.length l) : Nat) : Int) < (1 : Int))))
    (some Bool.true)
    (cond (decide (((((List.length l) : Nat) : Int) > (4 : Int))))
      (some Bool.true)
      (some ((((ByteArray.size s) : Nat) : Int) != (8 : Int))))) fun j =>
  (cond j
  (k (1 : Int))
  (c_spec_VolumeFault_r_0 N l b s (0 : Int) (
    (k (1 : Int))) (
    (k (0 : Int))))))
theorem ea_e_spec_VolumeFault_r (N : Nat) (G_spec_l01IsWord : ∀ {R : Type} (n : Int) (k : Bool → Option R), Option R) {R : Type} (b : Bool) (s : ByteArray) (l : List Go.Sa.KeySlot) (K : AV → Hp E → Option R) :
    runFnI (E := E) (OA_spec_VolumeFault_r N G_spec_l01IsWord) (IT_spec_VolumeFault_r_0 N) sl_spec_VolumeFault_r J_spec_VolumeFault_r Go.Proofs.Try.f84 [(Go.Eng.AV.agg [(Go.Eng.SV.slc 0 Option.none b), (Go.Eng.SV.str s)])] [(Option.some (Go.Eng.HE.mk Bool.true (Go.Eng.HB.rows (Go.Sa.B.iKeySlot l))))] K =
      ga_g_spec_VolumeFault_r N G_spec_l01IsWord b s l (fun n1 => K (Go.Eng.AV.sc (Go.Eng.SV.int Go.IntKind.i64 n1)) [(Option.some (Go.Eng.HE.mk Bool.true (Go.Eng.HB.rows (Go.Sa.B.iKeySlot l))))]) := by kernel_rfl
theorem e_spec_VolumeFault_r (N : Nat) {R : Type} (b : Bool) (s : ByteArray) (l : List Go.Sa.KeySlot) (K : AV → Hp E → Option R) :
    runFnI (E := E) (O_spec_VolumeFault_r N) (IT_spec_VolumeFault_r_0 N) sl_spec_VolumeFault_r J_spec_VolumeFault_r Go.Proofs.Try.f84 [(Go.Eng.AV.agg [(Go.Eng.SV.slc 0 Option.none b), (Go.Eng.SV.str s)])] [(Option.some (Go.Eng.HE.mk Bool.true (Go.Eng.HB.rows (Go.Sa.B.iKeySlot l))))] K =
      g_spec_VolumeFault_r N b s l (fun n1 => K (Go.Eng.AV.sc (Go.Eng.SV.int Go.IntKind.i64 n1)) [(Option.some (Go.Eng.HE.mk Bool.true (Go.Eng.HB.rows (Go.Sa.B.iKeySlot l))))]) := castPr (by kernel_rfl) (ea_e_spec_VolumeFault_r N (g_spec_l01IsWord N) b s l K)
def o_spec_VolumeFault_r (N : Nat) {R : Type} (args : List AV) (H : Hp E) (K : AV → Hp E → Option R) : Option R :=
  match args, H with
  | [(Go.Eng.AV.agg [(Go.Eng.SV.slc 0 Option.none b), (Go.Eng.SV.str s)])], [(Option.some (Go.Eng.HE.mk Bool.true (Go.Eng.HB.rows (Go.Sa.B.iKeySlot l))))] => g_spec_VolumeFault_r N b s l (fun n1 => K (Go.Eng.AV.sc (Go.Eng.SV.int Go.IntKind.i64 n1)) [(Option.some (Go.Eng.HE.mk Bool.true (Go.Eng.HB.rows (Go.Sa.B.iKeySlot l))))])
  | _, _ => none
theorem o_spec_VolumeFault_r_ok (N : Nat) : FnOk E 84 (o_spec_VolumeFault_r N) := by
  intro R args H K r h
  unfold o_spec_VolumeFault_r at h
  dsimp only at h
  split at h
  · exact fnB_ok (ids := [0]) (top := [0]) ok (O_spec_VolumeFault_r_ok N) (jn_ok _ _ _) Go.Proofs.Try.func84 (by kernel_rfl) (IT := IT_spec_VolumeFault_r_0 N) (sl := sl_spec_VolumeFault_r) (J := J_spec_VolumeFault_r) (K := K) (H := [(Option.some (Go.Eng.HE.mk Bool.true (Go.Eng.HB.rows (Go.Sa.B.iKeySlot _))))]) (IT_spec_VolumeFault_r_0_ok N) (by kernel_rfl) rfl ((e_spec_VolumeFault_r N _ _ _ K).trans h)
  · cases h
/-! ### loop.example/g00038/spec.OpenVolume -/
abbrev sl_spec_OpenVolume_r : SlotT := [(0, ([1, 2, 4, 5], [4]))]
abbrev J_spec_OpenVolume_r : JT := jn [] [] []
noncomputable def O_spec_OpenVolume_r (N : Nat) : Orc E := addFn 41 (o_spec_Crypt N) (addFn 56 (o_spec_TagOf N) (addFn 84 (o_spec_VolumeFault_r N) (noFn)))
def pa_spec_OpenVolume_r__o_spec_Crypt (N : Nat) (G_spec_Crypt : ∀ {R : Type} (s : ByteArray) (n : Int) (s1 : ByteArray) (k : ByteArray → Option R), Option R) (G_spec_TagOf : ∀ {R : Type} (s : ByteArray) (s1 : ByteArray) (k : ByteArray → Option R), Option R) (G_spec_VolumeFault_r : ∀ {R : Type} (b : Bool) (s : ByteArray) (l : List Go.Sa.KeySlot) (k : Int → Option R), Option R) {R : Type} (args : List AV) (H : Hp E) (K : AV → Hp E → Option R) : Option R :=
  match args, H with
  | [(Go.Eng.AV.sc (Go.Eng.SV.str s)), (Go.Eng.AV.sc (Go.Eng.SV.int Go.IntKind.i64 n)), (Go.Eng.AV.sc (Go.Eng.SV.str s1))], [] => G_spec_Crypt s n s1 (fun s5 => K (Go.Eng.AV.sc (Go.Eng.SV.str s5)) [])
  | _, _ => none
def pa_spec_OpenVolume_r__o_spec_TagOf (N : Nat) (G_spec_Crypt : ∀ {R : Type} (s : ByteArray) (n : Int) (s1 : ByteArray) (k : ByteArray → Option R), Option R) (G_spec_TagOf : ∀ {R : Type} (s : ByteArray) (s1 : ByteArray) (k : ByteArray → Option R), Option R) (G_spec_VolumeFault_r : ∀ {R : Type} (b : Bool) (s : ByteArray) (l : List Go.Sa.KeySlot) (k : Int → Option R), Option R) {R : Type} (args : List AV) (H : Hp E) (K : AV → Hp E → Option R) : Option R :=
  match args, H with
  | [(Go.Eng.AV.sc (Go.Eng.SV.str s)), (Go.Eng.AV.sc (Go.Eng.SV.str s1))], [] => G_spec_TagOf s s1 (fun s4 => K (Go.Eng.AV.sc (Go.Eng.SV.str s4)) [])
  | _, _ => none
def pa_spec_OpenVolume_r__o_spec_VolumeFault_r (N : Nat) (G_spec_Crypt : ∀ {R : Type} (s : ByteArray) (n : Int) (s1 : ByteArray) (k : ByteArray → Option R), Option R) (G_spec_TagOf : ∀ {R : Type} (s : ByteArray) (s1 : ByteArray) (k : ByteArray → Option R), Option R) (G_spec_VolumeFault_r : ∀ {R : Type} (b : Bool) (s : ByteArray) (l : List Go.Sa.KeySlot) (k : Int → Option R), Option R) {R : Type} (args : List AV) (H : Hp E) (K : AV → Hp E → Option R) : Option R :=
  match args, H with
  | [(Go.Eng.AV.agg [(Go.Eng.SV.slc 0 Option.none b), (Go.Eng.SV.str s)])], [(Option.some (Go.Eng.HE.mk Bool.true (Go.Eng.HB.rows (Go.Sa.B.iKeySlot l))))] => G_spec_VolumeFault_r b s l (fun n1 => K (Go.Eng.AV.sc (Go.Eng.SV.int Go.IntKind.i64 n1)) [(Option.some (Go.Eng.HE.mk Bool.true (Go.Eng.HB.rows (Go.Sa.B.iKeySlot l))))])
  | _, _ => none
noncomputable def OA_spec_OpenVolume_r (N : Nat) (G_spec_Crypt : ∀ {R : Type} (s : ByteArray) (n : Int) (s1 : ByteArray) (k : ByteArray → Option R), Option R) (G_spec_TagOf : ∀ {R : Type} (s : ByteArray) (s1 : ByteArray) (k : ByteArray → Option R), Option R) (G_spec_VolumeFault_r : ∀ {R : Type} (b : Bool) (s : ByteArray) (l : List Go.Sa.KeySlot) (k : Int → Option R), Option R) : Orc E := addFn 41 (pa_spec_OpenVolume_r__o_spec_Crypt N G_spec_Crypt G_spec_TagOf G_spec_VolumeFault_r) (addFn 56 (pa_spec_OpenVolume_r__o_spec_TagOf N G_spec_Crypt G_spec_TagOf G_spec_VolumeFault_r) (addFn 84 (pa_spec_OpenVolume_r__o_spec_VolumeFault_r N G_spec_Crypt G_spec_TagOf G_spec_VolumeFault_r) (noFn)))
theorem O_spec_OpenVolume_r_ok (N : Nat) : OrcOk (O_spec_OpenVolume_r N) := addFn_ok (o_spec_Crypt_ok N) (addFn_ok (o_spec_TagOf_ok N) (addFn_ok (o_spec_VolumeFault_r_ok N) (noFn_ok)))
def s_spec_OpenVolume_r_0 (N : Nat) {R : Type} (s2 : ByteArray) (l1 : List Go.Sa.KeySlot) (b1 : Bool) (s3 : ByteArray) (n2 : Int) (s4 : ByteArray) (n1 : Int) (ag : Int → Option R)  (kR : ByteArray → Option R) (kN : Option R) : Option R :=
  (cond (decide ((n1 < (((List.length l1) : Nat) : Int))))
  (cond ((decide (((0 : Int) ≤ n1))) && (decide ((n1 < (((List.length l1) : Nat) : Int)))))
    (elemK l1 (Int.toNat n1) fun x =>
      (g_spec_TagOf N s2 (Go.Sa.KeySlot.fKey x) fun s5 =>
      (cond (!(decide ((s5 = (Go.Sa.KeySlot.fTag x)))))
      (ag (Go.IntKind.wrap Go.IntKind.i64 (n1 + (1 : Int))))
      (g_spec_Crypt N s2 (Go.Sa.KeySlot.fSalt x) (Go.Sa.KeySlot.fKey x) fun s6 =>
        (g_spec_TagOf N s6 (ByteArray.mk (List.toArray [])) fun s7 =>
        (cond (decide ((s7 = s3)))
        (kR s6)
        (ag (Go.IntKind.wrap Go.IntKind.i64 (n1 + (1 : Int))))))))))
    none)
  kN)
def ga_s_spec_OpenVolume_r_0 (N : Nat) (G_spec_Crypt : ∀ {R : Type} (s : ByteArray) (n : Int) (s1 : ByteArray) (k : ByteArray → Option R), Option R) (G_spec_TagOf : ∀ {R : Type} (s : ByteArray) (s1 : ByteArray) (k : ByteArray → Option R), Option R) (G_spec_VolumeFault_r : ∀ {R : Type} (b : Bool) (s : ByteArray) (l : List Go.Sa.KeySlot) (k : Int → Option R), Option R) {R : Type} (s2 : ByteArray) (l1 : List Go.Sa.KeySlot) (b1 : Bool) (s3 : ByteArray) (n2 : Int) (s4 : ByteArray) (n1 : Int) (ag : Int → Option R)  (kR : ByteArray → Option R) (kN : Option R) : Option R :=
  (cond (decide ((n1 < (((List.length l1) : Nat) : Int))))
  (cond ((decide (((0 : Int) ≤ n1))) && (decide ((n1 < (((List.length l1) : Nat) : Int)))))
    (elemK l1 (Int.toNat n1) fun x =>
      (G_spec_TagOf s2 (Go.Sa.KeySlot.fKey x) fun s5 =>
      (cond (!(decide ((s5 = (Go.Sa.KeySlot.fTag x)))))
      (ag (Go.IntKind.wrap Go.IntKind.i64 (n1 + (1 : Int))))
      (G_spec_Crypt s2 (Go.Sa.KeySlot.fSalt x) (Go.Sa.KeySlot.fKey x) fun s6 =>
        (G_spec_TagOf s6 (ByteArray.mk (List.toArray [])) fun s7 =>
        (cond (decide ((s7 = s3)))
        (kR s6)
        (ag (Go.IntKind.wrap Go.IntKind.i64 (n1 + (1 : Int))))))))))
    none)
  kN)
def l_spec_OpenVolume_r_0 (N : Nat) {R : Type} (s2 : ByteArray) (l1 : List Go.Sa.KeySlot) (b1 : Bool) (s3 : ByteArray) (n2 : Int) (s4 : ByteArray) (kR : ByteArray → Option R) (kN : Option R) : Nat → Int → Option R
  | 0, _ => none
  | f + 1, n1 => s_spec_OpenVolume_r_0 N s2 l1 b1 s3 n2 s4 n1 (fun n1 => l_spec_OpenVolume_r_0 N s2 l1 b1 s3 n2 s4 kR kN f n1)  kR kN
def c_spec_OpenVolume_r_0 (N : Nat) {R : Type} (s2 : ByteArray) (l1 : List Go.Sa.KeySlot) (b1 : Bool) (s3 : ByteArray) (n2 : Int) (s4 : ByteArray) (n1 : Int) (kR : ByteArray → Option R) (kN : Option R) : Option R := l_spec_OpenVolume_r_0 N s2 l1 b1 s3 n2 s4 kR kN N n1
theorem ea_se_spec_OpenVolume_r_0 (N : Nat) (G_spec_Crypt : ∀ {R : Type} (s : ByteArray) (n : Int) (s1 : ByteArray) (k : ByteArray → Option R), Option R) (G_spec_TagOf : ∀ {R : Type} (s : ByteArray) (s1 : ByteArray) (k : ByteArray → Option R), Option R) (G_spec_VolumeFault_r : ∀ {R : Type} (b : Bool) (s : ByteArray) (l : List Go.Sa.KeySlot) (k : Int → Option R), Option R) {R : Type} (s2 : ByteArray) (l1 : List Go.Sa.KeySlot) (b1 : Bool) (s3 : ByteArray) (n2 : Int) (s4 : ByteArray) (n1 : Int) (AG : List (Option AV) → Hp E → Option R) (KL : Ex → List (Option AV) → Hp E → Option R) :
    iterStep (E := E) (OA_spec_OpenVolume_r N G_spec_Crypt G_spec_TagOf G_spec_VolumeFault_r) (fun {R} => LI (noIt) 1 49 sl_spec_OpenVolume_r (R := R)) J_spec_OpenVolume_r 1 49 0 [1, 2, 4, 5] [4] (body Go.Proofs.Try.f35 0) AG KL [(Option.some (Go.Eng.AV.sc (Go.Eng.SV.str s2))), (Option.some (Go.Eng.AV.sc (Go.Eng.SV.ptr 1 0 0))), (Option.some (Go.Eng.AV.sc (Go.Eng.SV.ptr 2 0 0))), (Option.some (Go.Eng.AV.sc (Go.Eng.SV.int Go.IntKind.i64 n1)))] [(Option.some (Go.Eng.HE.mk Bool.true (Go.Eng.HB.rows (Go.Sa.B.iKeySlot l1)))), (Option.some (Go.Eng.HE.mk Bool.false (Go.Eng.HB.exp Option.none [(Go.Eng.SV.slc 0 Option.none b1), (Go.Eng.SV.str s3)]))), (Option.some (Go.Eng.HE.mk Bool.false (Go.Eng.HB.exp Option.none [(Go.Eng.SV.int Go.IntKind.i64 n2), (Go.Eng.SV.str s4)])))] =
      ga_s_spec_OpenVolume_r_0 N G_spec_Crypt G_spec_TagOf G_spec_VolumeFault_r s2 l1 b1 s3 n2 s4 n1 (fun n1 => AG [(Option.some (Go.Eng.AV.sc (Go.Eng.SV.str s2))), (Option.some (Go.Eng.AV.sc (Go.Eng.SV.ptr 1 0 0))), (Option.some (Go.Eng.AV.sc (Go.Eng.SV.ptr 2 0 0))), (Option.some (Go.Eng.AV.sc (Go.Eng.SV.int Go.IntKind.i64 n1)))] [(Option.some (Go.Eng.HE.mk Bool.true (Go.Eng.HB.rows (Go.Sa.B.iKeySlot l1)))), (Option.some (Go.Eng.HE.mk Bool.false (Go.Eng.HB.exp Option.none [(Go.Eng.SV.slc 0 Option.none b1), (Go.Eng.SV.str s3)]))), (Option.some (Go.Eng.HE.mk Bool.false (Go.Eng.HB.exp Option.none [(Go.Eng.SV.int Go.IntKind.i64 n2), (Go.Eng.SV.str s4)])))])  (fun s10 => KL Go.Eng.Ex.ret [(Option.some (Go.Eng.AV.sc (Go.Eng.SV.ptr 1 0 0)))] [(Option.some (Go.Eng.HE.mk Bool.true (Go.Eng.HB.rows (Go.Sa.B.iKeySlot l1)))), (Option.some (Go.Eng.HE.mk Bool.false (Go.Eng.HB.exp Option.none [(Go.Eng.SV.int Go.IntKind.i64 (0 : Int)), (Go.Eng.SV.str s10)])))]) (KL Go.Eng.Ex.normal [(Option.some (Go.Eng.AV.sc (Go.Eng.SV.ptr 1 0 0)))] [(Option.some (Go.Eng.HE.mk Bool.true (Go.Eng.HB.rows (Go.Sa.B.iKeySlot l1)))), (Option.some (Go.Eng.HE.mk Bool.false (Go.Eng.HB.exp Option.none [(Go.Eng.SV.int Go.IntKind.i64 n2), (Go.Eng.SV.str s4)])))]) := by kernel_rfl
theorem se_spec_OpenVolume_r_0 (N : Nat) {R : Type} (s2 : ByteArray) (l1 : List Go.Sa.KeySlot) (b1 : Bool) (s3 : ByteArray) (n2 : Int) (s4 : ByteArray) (n1 : Int) (AG : List (Option AV) → Hp E → Option R) (KL : Ex → List (Option AV) → Hp E → Option R) :
    iterStep (E := E) (O_spec_OpenVolume_r N) (fun {R} => LI (noIt) 1 49 sl_spec_OpenVolume_r (R := R)) J_spec_OpenVolume_r 1 49 0 [1, 2, 4, 5] [4] (body Go.Proofs.Try.f35 0) AG KL [(Option.some (Go.Eng.AV.sc (Go.Eng.SV.str s2))), (Option.some (Go.Eng.AV.sc (Go.Eng.SV.ptr 1 0 0))), (Option.some (Go.Eng.AV.sc (Go.Eng.SV.ptr 2 0 0))), (Option.some (Go.Eng.AV.sc (Go.Eng.SV.int Go.IntKind.i64 n1)))] [(Option.some (Go.Eng.HE.mk Bool.true (Go.Eng.HB.rows (Go.Sa.B.iKeySlot l1)))), (Option.some (Go.Eng.HE.mk Bool.false (Go.Eng.HB.exp Option.none [(Go.Eng.SV.slc 0 Option.none b1), (Go.Eng.SV.str s3)]))), (Option.some (Go.Eng.HE.mk Bool.false (Go.Eng.HB.exp Option.none [(Go.Eng.SV.int Go.IntKind.i64 n2), (Go.Eng.SV.str s4)])))] =
      s_spec_OpenVolume_r_0 N s2 l1 b1 s3 n2 s4 n1 (fun n1 => AG [(Option.some (Go.Eng.AV.sc (Go.Eng.SV.str s2))), (Option.some (Go.Eng.AV.sc (Go.Eng.SV.ptr 1 0 0))), (Option.some (Go.Eng.AV.sc (Go.Eng.SV.ptr 2 0 0))), (Option.some (Go.Eng.AV.sc (Go.Eng.SV.int Go.IntKind.i64 n1)))] [(Option.some (Go.Eng.HE.mk Bool.true (Go.Eng.HB.rows (Go.Sa.B.iKeySlot l1)))), (Option.some (Go.Eng.HE.mk Bool.false (Go.Eng.HB.exp Option.none [(Go.Eng.SV.slc 0 Option.none b1), (Go.Eng.SV.str s3)]))), (Option.some (Go.Eng.HE.mk Bool.false (Go.Eng.HB.exp Option.none [(Go.Eng.SV.int Go.IntKind.i64 n2), (Go.Eng.SV.str s4)])))])  (fun s10 => KL Go.Eng.Ex.ret [(Option.some (Go.Eng.AV.sc (Go.Eng.SV.ptr 1 0 0)))] [(Option.some (Go.Eng.HE.mk Bool.true (Go.Eng.HB.rows (Go.Sa.B.iKeySlot l1)))), (Option.some (Go.Eng.HE.mk Bool.false (Go.Eng.HB.exp Option.none [(Go.Eng.SV.int Go.IntKind.i64 (0 : Int)), (Go.Eng.SV.str s10)])))]) (KL Go.Eng.Ex.normal [(Option.some (Go.Eng.AV.sc (Go.Eng.SV.ptr 1 0 0)))] [(Option.some (Go.Eng.HE.mk Bool.true (Go.Eng.HB.rows (Go.Sa.B.iKeySlot l1)))), (Option.some (Go.Eng.HE.mk Bool.false (Go.Eng.HB.exp Option.none [(Go.Eng.SV.int Go.IntKind.i64 n2), (Go.Eng.SV.str s4)])))]) := castPr (by kernel_rfl) (ea_se_spec_OpenVolume_r_0 N (g_spec_Crypt N) (g_spec_TagOf N) (g_spec_VolumeFault_r N) s2 l1 b1 s3 n2 s4 n1 AG KL)
theorem le_spec_OpenVolume_r_0 (N : Nat) {R : Type} (s2 : ByteArray) (l1 : List Go.Sa.KeySlot) (b1 : Bool) (s3 : ByteArray) (n2 : Int) (s4 : ByteArray) (KL : Ex → List (Option AV) → Hp E → Option R) : ∀ (f : Nat), ∀ (n1 : Int), iterK (E := E) (O_spec_OpenVolume_r N) (fun {R} => LI (noIt) 1 49 sl_spec_OpenVolume_r (R := R)) J_spec_OpenVolume_r 1 49 0 [1, 2, 4, 5] [4] (body Go.Proofs.Try.f35 0) f [(Option.some (Go.Eng.AV.sc (Go.Eng.SV.str s2))), (Option.some (Go.Eng.AV.sc (Go.Eng.SV.ptr 1 0 0))), (Option.some (Go.Eng.AV.sc (Go.Eng.SV.ptr 2 0 0))), (Option.some (Go.Eng.AV.sc (Go.Eng.SV.int Go.IntKind.i64 n1)))] [(Option.some (Go.Eng.HE.mk Bool.true (Go.Eng.HB.rows (Go.Sa.B.iKeySlot l1)))), (Option.some (Go.Eng.HE.mk Bool.false (Go.Eng.HB.exp Option.none [(Go.Eng.SV.slc 0 Option.none b1), (Go.Eng.SV.str s3)]))), (Option.some (Go.Eng.HE.mk Bool.false (Go.Eng.HB.exp Option.none [(Go.Eng.SV.int Go.IntKind.i64 n2), (Go.Eng.SV.str s4)])))] KL = l_spec_OpenVolume_r_0 N s2 l1 b1 s3 n2 s4 (fun s10 => KL Go.Eng.Ex.ret [(Option.some (Go.Eng.AV.sc (Go.Eng.SV.ptr 1 0 0)))] [(Option.some (Go.Eng.HE.mk Bool.true (Go.Eng.HB.rows (Go.Sa.B.iKeySlot l1)))), (Option.some (Go.Eng.HE.mk Bool.false (Go.Eng.HB.exp Option.none [(Go.Eng.SV.int Go.IntKind.i64 (0 : Int)), (Go.Eng.SV.str s10)])))]) (KL Go.Eng.Ex.normal [(Option.some (Go.Eng.AV.sc (Go.Eng.SV.ptr 1 0 0)))] [(Option.some (Go.Eng.HE.mk Bool.true (Go.Eng.HB.rows (Go.Sa.B.iKeySlot l1)))), (Option.some (Go.Eng.HE.mk Bool.false (Go.Eng.HB.exp Option.none [(Go.Eng.SV.int Go.IntKind.i64 n2), (Go.Eng.SV.str s4)])))]) f n1 := by
  intro f
  induction f with
  | zero => intros; rfl
  | succ f ih =>
    intro n1
    rw [iterK_succ, se_spec_OpenVolume_r_0]
    exact (congrArg (fun z0 => s_spec_OpenVolume_r_0 N s2 l1 b1 s3 n2 s4 n1 z0 (fun s10 => KL Go.Eng.Ex.ret [(Option.some (Go.Eng.AV.sc (Go.Eng.SV.ptr 1 0 0)))] [(Option.some (Go.Eng.HE.mk Bool.true (Go.Eng.HB.rows (Go.Sa.B.iKeySlot l1)))), (Option.some (Go.Eng.HE.mk Bool.false (Go.Eng.HB.exp Option.none [(Go.Eng.SV.int Go.IntKind.i64 (0 : Int)), (Go.Eng.SV.str s10)])))]) (KL Go.Eng.Ex.normal [(Option.some (Go.Eng.AV.sc (Go.Eng.SV.ptr 1 0 0)))] [(Option.some (Go.Eng.HE.mk Bool.true (Go.Eng.HB.rows (Go.Sa.B.iKeySlot l1)))), (Option.some (Go.Eng.HE.mk Bool.false (Go.Eng.HB.exp Option.none [(Go.Eng.SV.int Go.IntKind.i64 n2), (Go.Eng.SV.str s4)])))])) (funext fun n1 => ih n1))
def i_spec_OpenVolume_r_0 (N : Nat) {R : Type} (vs : List (Option AV)) (H : Hp E) (KL : Ex → List (Option AV) → Hp E → Option R) : Option R :=
  match vs, H with
  | [(Option.some (Go.Eng.AV.sc (Go.Eng.SV.str s2))), (Option.some (Go.Eng.AV.sc (Go.Eng.SV.ptr 1 0 0))), (Option.some (Go.Eng.AV.sc (Go.Eng.SV.ptr 2 0 0))), (Option.some (Go.Eng.AV.sc (Go.Eng.SV.int Go.IntKind.i64 n1)))], [(Option.some (Go.Eng.HE.mk Bool.true (Go.Eng.HB.rows (Go.Sa.B.iKeySlot l1)))), (Option.some (Go.Eng.HE.mk Bool.false (Go.Eng.HB.exp Option.none [(Go.Eng.SV.slc 0 Option.none b1), (Go.Eng.SV.str s3)]))), (Option.some (Go.Eng.HE.mk Bool.false (Go.Eng.HB.exp Option.none [(Go.Eng.SV.int Go.IntKind.i64 n2), (Go.Eng.SV.str s4)])))] => c_spec_OpenVolume_r_0 N s2 l1 b1 s3 n2 s4 n1 (fun s11 => KL Go.Eng.Ex.ret [(Option.some (Go.Eng.AV.sc (Go.Eng.SV.ptr 1 0 0)))] [(Option.some (Go.Eng.HE.mk Bool.true (Go.Eng.HB.rows (Go.Sa.B.iKeySlot l1)))), (Option.some (Go.Eng.HE.mk Bool.false (Go.Eng.HB.exp Option.none [(Go.Eng.SV.int Go.IntKind.i64 (0 : Int)), (Go.Eng.SV.str s11)])))]) (KL Go.Eng.Ex.normal [(Option.some (Go.Eng.AV.sc (Go.Eng.SV.ptr 1 0 0)))] [(Option.some (Go.Eng.HE.mk Bool.true (Go.Eng.HB.rows (Go.Sa.B.iKeySlot l1)))), (Option.some (Go.Eng.HE.mk Bool.false (Go.Eng.HB.exp Option.none [(Go.Eng.SV.int Go.IntKind.i64 n2), (Go.Eng.SV.str s4)])))])
  | _, _ => none
noncomputable def IT_spec_OpenVolume_r_0 (N : Nat) : Its E := addIt 0 (i_spec_OpenVolume_r_0 N) (noIt)
theorem IT_spec_OpenVolume_r_0_ok (N : Nat) : ItOk (IT_spec_OpenVolume_r_0 N) 1 49 sl_spec_OpenVolume_r (lsB Go.Proofs.Try.f35 [0]) :=
  addItB_ok (inner := []) ok (O_spec_OpenVolume_r_ok N) (jn_ok _ _ _) (noIt_ok) rfl (by kernel_rfl) rfl fun vs H KL r h => by
    unfold i_spec_OpenVolume_r_0 at h
    split at h
    · exact ⟨_, (le_spec_OpenVolume_r_0 N _ _ _ _ _ _ KL N _).trans h⟩
    · cases h
def g_spec_OpenVolume_r (N : Nat) {R : Type} (b : Bool) (s : ByteArray) (s1 : ByteArray) (l : List Go.Sa.KeySlot) (k : Int → ByteArray → Option R) : Option R :=
  (cond (decide (((((ByteArray.size s1) : Nat) : Int) > (4096 : Int))))
  (k (2 : Int) (ByteArray.mk (List.toArray [])))
  (g_spec_VolumeFault_r N b s l fun n =>
    (cond (n != (0 : Int))
    (k (1 : Int) (ByteArray.mk (List.toArray [])))
    (c_spec_OpenVolume_r_0 N s1 l b s (0 : Int) (ByteArray.mk (List.toArray [])) (0 : Int) (fun s8 =>
      (k (0 : Int) s8)) (
      (k (7 : Int) (ByteArray.mk (List.toArray []))))))))
def ga_g_spec_OpenVolume_r (N : Nat) (G_spec_Crypt : ∀ {R : Type} (s : ByteArray) (n : Int) (s1 : ByteArray) (k : ByteArray → Option R), Option R) (G_spec_TagOf : ∀ {R : Type} (s : ByteArray) (s1 : ByteArray) (k : ByteArray → Option R), Option R) (G_spec_VolumeFault_r : ∀ {R : Type} (b : Bool) (s : ByteArray) (l : List Go.Sa.KeySlot) (k : Int → Option R), Option R) {R : Type} (b : Bool) (s : ByteArray) (s1 : ByteArray) (l : List Go.Sa.KeySlot) (k : Int → ByteArray → Option R) : Option R :=
  (cond (decide (((((ByteArray.size s1) : Nat) : Int) > (4096 : Int))))
  (k (2 : Int) (ByteArray.mk (List.toArray [])))
  (G_spec_VolumeFault_r b s l fun n =>
    (cond (n != (0 : Int))
    (k (1 : Int) (ByteArray.mk (List.toArray [])))
    (c_spec_OpenVolume_r_0 N s1 l b s (0 : Int) (ByteArray.mk (List.toArray [])) (0 : Int) (fun s8 =>
      (k (0 : Int) s8)) (
      (k (7 : Int) (ByteArray.mk (List.toArray []))))))))
theorem ea_e_spec_OpenVolume_r (N : Nat) (G_spec_Crypt : ∀ {R : Type} (s : ByteArray) (n : Int) (s1 : ByteArray) (k : ByteArray → Option R), Option R) (G_spec_TagOf : ∀ {R : Type} (s : ByteArray) (s1 : ByteArray) (k : ByteArray → Option R), Option R) (G_spec_VolumeFault_r : ∀ {R : Type} (b : Bool) (s : ByteArray) (l : List Go.Sa.KeySlot) (k : Int → Option R), Option R) {R : Type} (b : Bool) (s : ByteArray) (s1 : ByteArray) (l : List Go.Sa.KeySlot) (K : AV → Hp E → Option R) :
    runFnI (E := E) (OA_spec_OpenVolume_r N G_spec_Crypt G_spec_TagOf G_spec_VolumeFault_r) (IT_spec_OpenVolume_r_0 N) sl_spec_OpenVolume_r J_spec_OpenVolume_r Go.Proofs.Try.f35 [(Go.Eng.AV.agg [(Go.Eng.SV.slc 0 Option.none b), (Go.Eng.SV.str s)]), (Go.Eng.AV.sc (Go.Eng.SV.str s1))] [(Option.some (Go.Eng.HE.mk Bool.true (Go.Eng.HB.rows (Go.Sa.B.iKeySlot l))))] K =
      ga_g_spec_OpenVolume_r N G_spec_Crypt G_spec_TagOf G_spec_VolumeFault_r b s s1 l (fun n3 s9 => K (Go.Eng.AV.agg [(Go.Eng.SV.int Go.IntKind.i64 n3), (Go.Eng.SV.str s9)]) [(Option.some (Go.Eng.HE.mk Bool.true (Go.Eng.HB.rows (Go.Sa.B.iKeySlot l))))]) := by kernel_rfl
theorem e_spec_OpenVolume_r (N : Nat) {R : Type} (b : Bool) (s : ByteArray) (s1 : ByteArray) (l : List Go.Sa.KeySlot) (K : AV → Hp E → Option R) :
    runFnI (E := E) (O_spec_OpenVolume_r N) (IT_spec_OpenVolume_r_0 N) sl_spec_OpenVolume_r J_spec_OpenVolume_r Go.Proofs.Try.f35 [(Go.Eng.AV.agg [(Go.Eng.SV.slc 0 Option.none b), (Go.Eng.SV.str s)]), (Go.Eng.AV.sc (Go.Eng.SV.str s1))] [(Option.some (Go.Eng.HE.mk Bool.true (Go.Eng.HB.rows (Go.Sa.B.iKeySlot l))))] K =
      g_spec_OpenVolume_r N b s s1 l (fun n3 s9 => K (Go.Eng.AV.agg [(Go.Eng.SV.int Go.IntKind.i64 n3), (Go.Eng.SV.str s9)]) [(Option.some (Go.Eng.HE.mk Bool.true (Go.Eng.HB.rows (Go.Sa.B.iKeySlot l))))]) := castPr (by kernel_rfl) (ea_e_spec_OpenVolume_r N (g_spec_Crypt N) (g_spec_TagOf N) (g_spec_VolumeFault_r N) b s s1 l K)
def o_spec_OpenVolume_r (N : Nat) {R : Type} (args : List AV) (H : Hp E) (K : AV → Hp E → Option R) : Option R :=
  match args, H with
  | [(Go.Eng.AV.agg [(Go.Eng.SV.slc 0 Option.none b), (Go.Eng.SV.str s)]), (Go.Eng.AV.sc (Go.Eng.SV.str s1))], [(Option.some (Go.Eng.HE.mk Bool.true (Go.Eng.HB.rows (Go.Sa.B.iKeySlot l))))] => g_spec_OpenVolume_r N b s s1 l (fun n3 s9 => K (Go.Eng.AV.agg [(Go.Eng.SV.int Go.IntKind.i64 n3), (Go.Eng.SV.str s9)]) [(Option.some (Go.Eng.HE.mk Bool.true (Go.Eng.HB.rows (Go.Sa.B.iKeySlot l))))])
  | _, _ => none
theorem o_spec_OpenVolume_r_ok (N : Nat) : FnOk E 35 (o_spec_OpenVolume_r N) := by
  intro R args H K r h
  unfold o_spec_OpenVolume_r at h
  dsimp only at h
  split at h
  · exact fnB_ok (ids := [0]) (top := [0]) ok (O_spec_OpenVolume_r_ok N) (jn_ok _ _ _) Go.Proofs.Try.func35 (by kernel_rfl) (IT := IT_spec_OpenVolume_r_0 N) (sl := sl_spec_OpenVolume_r) (J := J_spec_OpenVolume_r) (K := K) (H := [(Option.some (Go.Eng.HE.mk Bool.true (Go.Eng.HB.rows (Go.Sa.B.iKeySlot _))))]) (IT_spec_OpenVolume_r_0_ok N) (by kernel_rfl) rfl ((e_spec_OpenVolume_r N _ _ _ _ K).trans h)
  · cases h
end Go.Sa
