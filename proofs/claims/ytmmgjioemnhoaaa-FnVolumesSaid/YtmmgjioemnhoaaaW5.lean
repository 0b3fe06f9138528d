import Derived.Test.YtmmgjioemnhoaaaSpec
import Derived.Test.YtmmgjioemnhoaaaPLb
import Derived.Test.YtmmgjioemnhoaaaW4
set_option linter.all false
namespace Go.Sa
open Go Go.Eng Go.Proofs
set_option maxRecDepth 100000
/-! ### loop.example/g00038/impl.Crypt -/
abbrev sl_impl_Crypt : SlotT := [(0, ([0, 1, 7, 22, 23], [7])), (2, ([0, 1, 7, 8, 9, 10, 22, 23], [0, 1, 7, 22, 23]))]
abbrev J_impl_Crypt : JT := jn [(1, [(18, .b)])] [] []
noncomputable def O_impl_Crypt (N : Nat) : Orc E := addFn 67 (o_impl_ymix N) (addFn 68 (o_impl_yjoin_w N) (addFn 69 (o_impl_PutWord N) (addFn 92 (o_impl_ybig_w N) (addFn 57 (o_impl_ylongKey_w N) (noFn)))))
def pa_impl_Crypt__o_impl_ymix (N : Nat) (G_impl_ymix : ∀ {R : Type} (s : ByteArray) (n : Int) (k : Int → Option R), Option R) (G_impl_yjoin_w : ∀ {R : Type} (b : Bool) (l : List ByteArray) (k : ByteArray → Option R), Option R) (G_impl_PutWord : ∀ {R : Type} (n : Int) (k : ByteArray → Option R), Option R) (G_impl_ybig_w : ∀ {R : Type} (b : Bool) (l : List ByteArray) (k : Bool → Option R), Option R) (G_impl_ylongKey_w : ∀ {R : Type} (b : Bool) (l : List ByteArray) (k : Bool → Option R), Option R) {R : Type} (args : List AV) (H : Hp E) (K : AV → Hp E → Option R) : Option R :=
  match args, H with
  | [(Go.Eng.AV.sc (Go.Eng.SV.str s)), (Go.Eng.AV.sc (Go.Eng.SV.int Go.IntKind.i64 n))], [] => G_impl_ymix s n (fun n6 => K (Go.Eng.AV.sc (Go.Eng.SV.int Go.IntKind.i64 n6)) [])
  | _, _ => none
def pa_impl_Crypt__o_impl_yjoin_w (N : Nat) (G_impl_ymix : ∀ {R : Type} (s : ByteArray) (n : Int) (k : Int → Option R), Option R) (G_impl_yjoin_w : ∀ {R : Type} (b : Bool) (l : List ByteArray) (k : ByteArray → Option R), Option R) (G_impl_PutWord : ∀ {R : Type} (n : Int) (k : ByteArray → Option R), Option R) (G_impl_ybig_w : ∀ {R : Type} (b : Bool) (l : List ByteArray) (k : Bool → Option R), Option R) (G_impl_ylongKey_w : ∀ {R : Type} (b : Bool) (l : List ByteArray) (k : Bool → Option R), Option R) {R : Type} (args : List AV) (H : Hp E) (K : AV → Hp E → Option R) : Option R :=
  match args, H with
  | [(Go.Eng.AV.sc (Go.Eng.SV.slc 0 Option.none b))], [(Option.some (Go.Eng.HE.mk Bool.false (Go.Eng.HB.rows (Go.Sa.B.str l))))] => G_impl_yjoin_w b l (fun s => K (Go.Eng.AV.sc (Go.Eng.SV.str s)) [(Option.some (Go.Eng.HE.mk Bool.false (Go.Eng.HB.rows (Go.Sa.B.str l))))])
  | _, _ => none
def pa_impl_Crypt__o_impl_PutWord (N : Nat) (G_impl_ymix : ∀ {R : Type} (s : ByteArray) (n : Int) (k : Int → Option R), Option R) (G_impl_yjoin_w : ∀ {R : Type} (b : Bool) (l : List ByteArray) (k : ByteArray → Option R), Option R) (G_impl_PutWord : ∀ {R : Type} (n : Int) (k : ByteArray → Option R), Option R) (G_impl_ybig_w : ∀ {R : Type} (b : Bool) (l : List ByteArray) (k : Bool → Option R), Option R) (G_impl_ylongKey_w : ∀ {R : Type} (b : Bool) (l : List ByteArray) (k : Bool → Option R), Option R) {R : Type} (args : List AV) (H : Hp E) (K : AV → Hp E → Option R) : Option R :=
  match args, H with
  | [(Go.Eng.AV.sc (Go.Eng.SV.int Go.IntKind.i64 n))], [] => G_impl_PutWord n (fun s => K (Go.Eng.AV.sc (Go.Eng.SV.str s)) [])
  | _, _ => none
def pa_impl_Crypt__o_impl_ybig_w (N : Nat) (G_impl_ymix : ∀ {R : Type} (s : ByteArray) (n : Int) (k : Int → Option R), Option R) (G_impl_yjoin_w : ∀ {R : Type} (b : Bool) (l : List ByteArray) (k : ByteArray → Option R), Option R) (G_impl_PutWord : ∀ {R : Type} (n : Int) (k : ByteArray → Option R), Option R) (G_impl_ybig_w : ∀ {R : Type} (b : Bool) (l : List ByteArray) (k : Bool → Option R), Option R) (G_impl_ylongKey_w : ∀ {R : Type} (b : Bool) (l : List ByteArray) (k : Bool → Option R), Option R) {R : Type} (args : List AV) (H : Hp E) (K : AV → Hp E → Option R) : Option R :=
  match args, H with
  | [(Go.Eng.AV.sc (Go.Eng.SV.slc 0 Option.none b))], [(Option.some (Go.Eng.HE.mk Bool.false (Go.Eng.HB.rows (Go.Sa.B.str l))))] => G_impl_ybig_w b l (fun b2 => K (Go.Eng.AV.sc (Go.Eng.SV.bool b2)) [(Option.some (Go.Eng.HE.mk Bool.false (Go.Eng.HB.rows (Go.Sa.B.str l))))])
  | _, _ => none
def pa_impl_Crypt__o_impl_ylongKey_w (N : Nat) (G_impl_ymix : ∀ {R : Type} (s : ByteArray) (n : Int) (k : Int → Option R), Option R) (G_impl_yjoin_w : ∀ {R : Type} (b : Bool) (l : List ByteArray) (k : ByteArray → Option R), Option R) (G_impl_PutWord : ∀ {R : Type} (n : Int) (k : ByteArray → Option R), Option R) (G_impl_ybig_w : ∀ {R : Type} (b : Bool) (l : List ByteArray) (k : Bool → Option R), Option R) (G_impl_ylongKey_w : ∀ {R : Type} (b : Bool) (l : List ByteArray) (k : Bool → Option R), Option R) {R : Type} (args : List AV) (H : Hp E) (K : AV → Hp E → Option R) : Option R :=
  match args, H with
  | [(Go.Eng.AV.sc (Go.Eng.SV.slc 0 Option.none b))], [(Option.some (Go.Eng.HE.mk Bool.false (Go.Eng.HB.rows (Go.Sa.B.str l))))] => G_impl_ylongKey_w b l (fun b2 => K (Go.Eng.AV.sc (Go.Eng.SV.bool b2)) [(Option.some (Go.Eng.HE.mk Bool.false (Go.Eng.HB.rows (Go.Sa.B.str l))))])
  | _, _ => none
noncomputable def OA_impl_Crypt (N : Nat) (G_impl_ymix : ∀ {R : Type} (s : ByteArray) (n : Int) (k : Int → Option R), Option R) (G_impl_yjoin_w : ∀ {R : Type} (b : Bool) (l : List ByteArray) (k : ByteArray → Option R), Option R) (G_impl_PutWord : ∀ {R : Type} (n : Int) (k : ByteArray → Option R), Option R) (G_impl_ybig_w : ∀ {R : Type} (b : Bool) (l : List ByteArray) (k : Bool → Option R), Option R) (G_impl_ylongKey_w : ∀ {R : Type} (b : Bool) (l : List ByteArray) (k : Bool → Option R), Option R) : Orc E := addFn 67 (pa_impl_Crypt__o_impl_ymix N G_impl_ymix G_impl_yjoin_w G_impl_PutWord G_impl_ybig_w G_impl_ylongKey_w) (addFn 68 (pa_impl_Crypt__o_impl_yjoin_w N G_impl_ymix G_impl_yjoin_w G_impl_PutWord G_impl_ybig_w G_impl_ylongKey_w) (addFn 69 (pa_impl_Crypt__o_impl_PutWord N G_impl_ymix G_impl_yjoin_w G_impl_PutWord G_impl_ybig_w G_impl_ylongKey_w) (addFn 92 (pa_impl_Crypt__o_impl_ybig_w N G_impl_ymix G_impl_yjoin_w G_impl_PutWord G_impl_ybig_w G_impl_ylongKey_w) (addFn 57 (pa_impl_Crypt__o_impl_ylongKey_w N G_impl_ymix G_impl_yjoin_w G_impl_PutWord G_impl_ybig_w G_impl_ylongKey_w) (noFn)))))
theorem O_impl_Crypt_ok (N : Nat) : OrcOk (O_impl_Crypt N) := addFn_ok (o_impl_ymix_ok N) (addFn_ok (o_impl_yjoin_w_ok N) (addFn_ok (o_impl_PutWord_ok N) (addFn_ok (o_impl_ybig_w_ok N) (addFn_ok (o_impl_ylongKey_w_ok N) (noFn_ok)))))
def s_impl_Crypt_2 (N : Nat) {R : Type} (s6 : ByteArray) (n5 : Int) (b3 : Bool) (n6 : Int) (n9 : Int) (n10 : Int) (n7 : Int) (n8 : Int) (l1 : List Int) (ag : Int → Int → (List Int) → Option R)  (kN : (List Int) → Option R) : Option R :=
  (cond (decide ((n8 < (if ((decide (((((List.length l1) : Nat) : Int) < (Go.IntKind.wrap Go.IntKind.i64 (n6 + (3 : Int)))))) = Bool.true) then (((List.length l1) : Nat) : Int) else (Go.IntKind.wrap Go.IntKind.i64 (n6 + (3 : Int)))))))
  (cond ((decide (((0 : Int) ≤ n8))) && (decide ((n8 < (((List.length l1) : Nat) : Int)))))
    (elemK l1 (Int.toNat n8) fun x =>
      (cond ((decide (((0 : Int) ≤ n8))) && (decide ((n8 < (((List.length l1) : Nat) : Int)))))
      (elemK l1 (Int.toNat n8) fun x1 =>
        (cond (Nat.blt (Int.toNat n8) (List.length l1))
        (ag (Int.fdiv n7 (256 : Int)) (Go.IntKind.wrap Go.IntKind.i64 (n8 + (1 : Int))) (Go.Eng.nset l1 (Int.toNat n8) (Go.IntKind.wrap Go.IntKind.u8 (((BitVec.toNat ((BitVec.ofInt 8 x) ^^^ (BitVec.ofInt 8 (Go.IntKind.wrap Go.IntKind.u8 n7)))) : Nat) : Int))))
        none))
      none))
    none)
  (kN l1))
def ga_s_impl_Crypt_2 (N : Nat) (G_impl_ymix : ∀ {R : Type} (s : ByteArray) (n : Int) (k : Int → Option R), Option R) (G_impl_yjoin_w : ∀ {R : Type} (b : Bool) (l : List ByteArray) (k : ByteArray → Option R), Option R) (G_impl_PutWord : ∀ {R : Type} (n : Int) (k : ByteArray → Option R), Option R) (G_impl_ybig_w : ∀ {R : Type} (b : Bool) (l : List ByteArray) (k : Bool → Option R), Option R) (G_impl_ylongKey_w : ∀ {R : Type} (b : Bool) (l : List ByteArray) (k : Bool → Option R), Option R) {R : Type} (s6 : ByteArray) (n5 : Int) (b3 : Bool) (n6 : Int) (n9 : Int) (n10 : Int) (n7 : Int) (n8 : Int) (l1 : List Int) (ag : Int → Int → (List Int) → Option R)  (kN : (List Int) → Option R) : Option R :=
  (cond (decide ((n8 < (if ((decide (((((List.length l1) : Nat) : Int) < (Go.IntKind.wrap Go.IntKind.i64 (n6 + (3 : Int)))))) = Bool.true) then (((List.length l1) : Nat) : Int) else (Go.IntKind.wrap Go.IntKind.i64 (n6 + (3 : Int)))))))
  (cond ((decide (((0 : Int) ≤ n8))) && (decide ((n8 < (((List.length l1) : Nat) : Int)))))
    (elemK l1 (Int.toNat n8) fun x =>
      (cond ((decide (((0 : Int) ≤ n8))) && (decide ((n8 < (((List.length l1) : Nat) : Int)))))
      (elemK l1 (Int.toNat n8) fun x1 =>
        (cond (Nat.blt (Int.toNat n8) (List.length l1))
        (ag (Int.fdiv n7 (256 : Int)) (Go.IntKind.wrap Go.IntKind.i64 (n8 + (1 : Int))) (Go.Eng.nset l1 (Int.toNat n8) (Go.IntKind.wrap Go.IntKind.u8 (((BitVec.toNat ((BitVec.ofInt 8 x) ^^^ (BitVec.ofInt 8 (Go.IntKind.wrap Go.IntKind.u8 n7)))) : Nat) : Int))))
        none))
      none))
    none)
  (kN l1))
def l_impl_Crypt_2 (N : Nat) {R : Type} (s6 : ByteArray) (n5 : Int) (b3 : Bool) (n6 : Int) (n9 : Int) (n10 : Int) (kN : (List Int) → Option R) : Nat → Int → Int → (List Int) → Option R
  | 0, _, _, _ => none
  | f + 1, n7, n8, l1 => s_impl_Crypt_2 N s6 n5 b3 n6 n9 n10 n7 n8 l1 (fun n7 n8 l1 => l_impl_Crypt_2 N s6 n5 b3 n6 n9 n10 kN f n7 n8 l1)  kN
def c_impl_Crypt_2 (N : Nat) {R : Type} (s6 : ByteArray) (n5 : Int) (b3 : Bool) (n6 : Int) (n9 : Int) (n10 : Int) (n7 : Int) (n8 : Int) (l1 : List Int) (kN : (List Int) → Option R) : Option R := l_impl_Crypt_2 N s6 n5 b3 n6 n9 n10 kN N n7 n8 l1
theorem ea_se_impl_Crypt_2 (N : Nat) (G_impl_ymix : ∀ {R : Type} (s : ByteArray) (n : Int) (k : Int → Option R), Option R) (G_impl_yjoin_w : ∀ {R : Type} (b : Bool) (l : List ByteArray) (k : ByteArray → Option R), Option R) (G_impl_PutWord : ∀ {R : Type} (n : Int) (k : ByteArray → Option R), Option R) (G_impl_ybig_w : ∀ {R : Type} (b : Bool) (l : List ByteArray) (k : Bool → Option R), Option R) (G_impl_ylongKey_w : ∀ {R : Type} (b : Bool) (l : List ByteArray) (k : Bool → Option R), Option R) {R : Type} (s6 : ByteArray) (n5 : Int) (b3 : Bool) (n6 : Int) (n9 : Int) (n10 : Int) (n7 : Int) (n8 : Int) (l1 : List Int) (AG : List (Option AV) → Hp E → Option R) (KL : Ex → List (Option AV) → Hp E → Option R) :
    iterStep (E := E) (OA_impl_Crypt N G_impl_ymix G_impl_yjoin_w G_impl_PutWord G_impl_ybig_w G_impl_ylongKey_w) (fun {R} => LI (noIt) 0 61 sl_impl_Crypt (R := R)) J_impl_Crypt 0 61 2 [0, 1, 7, 8, 9, 10, 22, 23] [0, 1, 7, 22, 23] (body Go.Proofs.Try.f40 2) AG KL [(Option.some (Go.Eng.AV.sc (Go.Eng.SV.str s6))), (Option.some (Go.Eng.AV.sc (Go.Eng.SV.int Go.IntKind.i64 n5))), (Option.some (Go.Eng.AV.sc (Go.Eng.SV.slc 0 Option.none b3))), (Option.some (Go.Eng.AV.sc (Go.Eng.SV.int Go.IntKind.i64 n6))), (Option.some (Go.Eng.AV.sc (Go.Eng.SV.int Go.IntKind.i64 n7))), (Option.some (Go.Eng.AV.sc (Go.Eng.SV.int Go.IntKind.i64 n8))), (Option.some (Go.Eng.AV.sc (Go.Eng.SV.int Go.IntKind.i64 n9))), (Option.some (Go.Eng.AV.sc (Go.Eng.SV.int Go.IntKind.i64 n10)))] [(Option.some (Go.Eng.HE.mk Bool.false (Go.Eng.HB.rows (Go.Sa.B.u8 l1))))] =
      ga_s_impl_Crypt_2 N G_impl_ymix G_impl_yjoin_w G_impl_PutWord G_impl_ybig_w G_impl_ylongKey_w s6 n5 b3 n6 n9 n10 n7 n8 l1 (fun n7 n8 l1 => AG [(Option.some (Go.Eng.AV.sc (Go.Eng.SV.str s6))), (Option.some (Go.Eng.AV.sc (Go.Eng.SV.int Go.IntKind.i64 n5))), (Option.some (Go.Eng.AV.sc (Go.Eng.SV.slc 0 Option.none b3))), (Option.some (Go.Eng.AV.sc (Go.Eng.SV.int Go.IntKind.i64 n6))), (Option.some (Go.Eng.AV.sc (Go.Eng.SV.int Go.IntKind.i64 n7))), (Option.some (Go.Eng.AV.sc (Go.Eng.SV.int Go.IntKind.i64 n8))), (Option.some (Go.Eng.AV.sc (Go.Eng.SV.int Go.IntKind.i64 n9))), (Option.some (Go.Eng.AV.sc (Go.Eng.SV.int Go.IntKind.i64 n10)))] [(Option.some (Go.Eng.HE.mk Bool.false (Go.Eng.HB.rows (Go.Sa.B.u8 l1))))])  (fun l4 => KL Go.Eng.Ex.normal [(Option.some (Go.Eng.AV.sc (Go.Eng.SV.str s6))), (Option.some (Go.Eng.AV.sc (Go.Eng.SV.int Go.IntKind.i64 n5))), (Option.some (Go.Eng.AV.sc (Go.Eng.SV.slc 0 Option.none b3))), (Option.some (Go.Eng.AV.sc (Go.Eng.SV.int Go.IntKind.i64 n9))), (Option.some (Go.Eng.AV.sc (Go.Eng.SV.int Go.IntKind.i64 n10)))] [(Option.some (Go.Eng.HE.mk Bool.false (Go.Eng.HB.rows (Go.Sa.B.u8 l4))))]) := by kernel_rfl
theorem se_impl_Crypt_2 (N : Nat) {R : Type} (s6 : ByteArray) (n5 : Int) (b3 : Bool) (n6 : Int) (n9 : Int) (n10 : Int) (n7 : Int) (n8 : Int) (l1 : List Int) (AG : List (Option AV) → Hp E → Option R) (KL : Ex → List (Option AV) → Hp E → Option R) :
    iterStep (E := E) (O_impl_Crypt N) (fun {R} => LI (noIt) 0 61 sl_impl_Crypt (R := R)) J_impl_Crypt 0 61 2 [0, 1, 7, 8, 9, 10, 22, 23] [0, 1, 7, 22, 23] (body Go.Proofs.Try.f40 2) AG KL [(Option.some (Go.Eng.AV.sc (Go.Eng.SV.str s6))), (Option.some (Go.Eng.AV.sc (Go.Eng.SV.int Go.IntKind.i64 n5))), (Option.some (Go.Eng.AV.sc (Go.Eng.SV.slc 0 Option.none b3))), (Option.some (Go.Eng.AV.sc (Go.Eng.SV.int Go.IntKind.i64 n6))), (Option.some (Go.Eng.AV.sc (Go.Eng.SV.int Go.IntKind.i64 n7))), (Option.some (Go.Eng.AV.sc (Go.Eng.SV.int Go.IntKind.i64 n8))), (Option.some (Go.Eng.AV.sc (Go.Eng.SV.int Go.IntKind.i64 n9))), (Option.some (Go.Eng.AV.sc (Go.Eng.SV.int Go.IntKind.i64 n10)))] [(Option.some (Go.Eng.HE.mk Bool.false (Go.Eng.HB.rows (Go.Sa.B.u8 l1))))] =
      s_impl_Crypt_2 N s6 n5 b3 n6 n9 n10 n7 n8 l1 (fun n7 n8 l1 => AG [(Option.some (Go.Eng.AV.sc (Go.Eng.SV.str s6))), (Option.some (Go.Eng.AV.sc (Go.Eng.SV.int Go.IntKind.i64 n5))), (Option.some (Go.Eng.AV.sc (Go.Eng.SV.slc 0 Option.none b3))), (Option.some (Go.Eng.AV.sc (Go.Eng.SV.int Go.IntKind.i64 n6))), (Option.some (Go.Eng.AV.sc (Go.Eng.SV.int Go.IntKind.i64 n7))), (Option.some (Go.Eng.AV.sc (Go.Eng.SV.int Go.IntKind.i64 n8))), (Option.some (Go.Eng.AV.sc (Go.Eng.SV.int Go.IntKind.i64 n9))), (Option.some (Go.Eng.AV.sc (Go.Eng.SV.int Go.IntKind.i64 n10)))] [(Option.some (Go.Eng.HE.mk Bool.false (Go.Eng.HB.rows (Go.Sa.B.u8 l1))))])  (fun l4 => KL Go.Eng.Ex.normal [(Option.some (Go.Eng.AV.sc (Go.Eng.SV.str s6))), (Option.some (Go.Eng.AV.sc (Go.Eng.SV.int Go.IntKind.i64 n5))), (Option.some (Go.Eng.AV.sc (Go.Eng.SV.slc 0 Option.none b3))), (Option.some (Go.Eng.AV.sc (Go.Eng.SV.int Go.IntKind.i64 n9))), (Option.some (Go.Eng.AV.sc (Go.Eng.SV.int Go.IntKind.i64 n10)))] [(Option.some (Go.Eng.HE.mk Bool.false (Go.Eng.HB.rows (Go.Sa.B.u8 l4))))]) := castPr (by kernel_rfl) (ea_se_impl_Crypt_2 N (g_impl_ymix N) (g_impl_yjoin_w N) (g_impl_PutWord N) (g_impl_ybig_w N) (g_impl_ylongKey_w N) s6 n5 b3 n6 n9 n10 n7 n8 l1 AG KL)
theorem le_impl_Crypt_2 (N : Nat) {R : Type} (s6 : ByteArray) (n5 : Int) (b3 : Bool) (n6 : Int) (n9 : Int) (n10 : Int) (KL : Ex → List (Option AV) → Hp E → Option R) : ∀ (f : Nat), ∀ (n7 : Int) (n8 : Int) (l1 : List Int), iterK (E := E) (O_impl_Crypt N) (fun {R} => LI (noIt) 0 61 sl_impl_Crypt (R := R)) J_impl_Crypt 0 61 2 [0, 1, 7, 8, 9, 10, 22, 23] [0, 1, 7, 22, 23] (body Go.Proofs.Try.f40 2) f [(Option.some (Go.Eng.AV.sc (Go.Eng.SV.str s6))), (Option.some (Go.Eng.AV.sc (Go.Eng.SV.int Go.IntKind.i64 n5))), (Option.some (Go.Eng.AV.sc (Go.Eng.SV.slc 0 Option.none b3))), (Option.some (Go.Eng.AV.sc (Go.Eng.SV.int Go.IntKind.i64 n6))), (Option.some (Go.Eng.AV.sc (Go.Eng.SV.int Go.IntKind.i64 n7))), (Option.some (Go.Eng.AV.sc (Go.Eng.SV.int Go.IntKind.i64 n8))), (Option.some (Go.Eng.AV.sc (Go.Eng.SV.int Go.IntKind.i64 n9))), (Option.some (Go.Eng.AV.sc (Go.Eng.SV.int Go.IntKind.i64 n10)))] [(Option.some (Go.Eng.HE.mk Bool.false (Go.Eng.HB.rows (Go.Sa.B.u8 l1))))] KL = l_impl_Crypt_2 N s6 n5 b3 n6 n9 n10 (fun l4 => KL Go.Eng.Ex.normal [(Option.some (Go.Eng.AV.sc (Go.Eng.SV.str s6))), (Option.some (Go.Eng.AV.sc (Go.Eng.SV.int Go.IntKind.i64 n5))), (Option.some (Go.Eng.AV.sc (Go.Eng.SV.slc 0 Option.none b3))), (Option.some (Go.Eng.AV.sc (Go.Eng.SV.int Go.IntKind.i64 n9))), (Option.some (Go.Eng.AV.sc (Go.Eng.SV.int Go.IntKind.i64 n10)))] [(Option.some (Go.Eng.HE.mk Bool.false (Go.Eng.HB.rows (Go.Sa.B.u8 l4))))]) f n7 n8 l1 := by
  intro f
  induction f with
  | zero => intros; rfl
  | succ f ih =>
    intro n7 n8 l1
    rw [iterK_succ, se_impl_Crypt_2]
    exact (congrArg (fun z0 => s_impl_Crypt_2 N s6 n5 b3 n6 n9 n10 n7 n8 l1 z0 (fun l4 => KL Go.Eng.Ex.normal [(Option.some (Go.Eng.AV.sc (Go.Eng.SV.str s6))), (Option.some (Go.Eng.AV.sc (Go.Eng.SV.int Go.IntKind.i64 n5))), (Option.some (Go.Eng.AV.sc (Go.Eng.SV.slc 0 Option.none b3))), (Option.some (Go.Eng.AV.sc (Go.Eng.SV.int Go.IntKind.i64 n9))), (Option.some (Go.Eng.AV.sc (Go.Eng.SV.int Go.IntKind.i64 n10)))] [(Option.some (Go.Eng.HE.mk Bool.false (Go.Eng.HB.rows (Go.Sa.B.u8 l4))))])) (funext fun n7 => funext fun n8 => funext fun l1 => ih n7 n8 l1))
def i_impl_Crypt_2 (N : Nat) {R : Type} (vs : List (Option AV)) (H : Hp E) (KL : Ex → List (Option AV) → Hp E → Option R) : Option R :=
  match vs, H with
  | [(Option.some (Go.Eng.AV.sc (Go.Eng.SV.str s6))), (Option.some (Go.Eng.AV.sc (Go.Eng.SV.int Go.IntKind.i64 n5))), (Option.some (Go.Eng.AV.sc (Go.Eng.SV.slc 0 Option.none b3))), (Option.some (Go.Eng.AV.sc (Go.Eng.SV.int Go.IntKind.i64 n6))), (Option.some (Go.Eng.AV.sc (Go.Eng.SV.int Go.IntKind.i64 n7))), (Option.some (Go.Eng.AV.sc (Go.Eng.SV.int Go.IntKind.i64 n8))), (Option.some (Go.Eng.AV.sc (Go.Eng.SV.int Go.IntKind.i64 n9))), (Option.some (Go.Eng.AV.sc (Go.Eng.SV.int Go.IntKind.i64 n10)))], [(Option.some (Go.Eng.HE.mk Bool.false (Go.Eng.HB.rows (Go.Sa.B.u8 l1))))] => c_impl_Crypt_2 N s6 n5 b3 n6 n9 n10 n7 n8 l1 (fun l5 => KL Go.Eng.Ex.normal [(Option.some (Go.Eng.AV.sc (Go.Eng.SV.str s6))), (Option.some (Go.Eng.AV.sc (Go.Eng.SV.int Go.IntKind.i64 n5))), (Option.some (Go.Eng.AV.sc (Go.Eng.SV.slc 0 Option.none b3))), (Option.some (Go.Eng.AV.sc (Go.Eng.SV.int Go.IntKind.i64 n9))), (Option.some (Go.Eng.AV.sc (Go.Eng.SV.int Go.IntKind.i64 n10)))] [(Option.some (Go.Eng.HE.mk Bool.false (Go.Eng.HB.rows (Go.Sa.B.u8 l5))))])
  | _, _ => none
noncomputable def IT_impl_Crypt_2 (N : Nat) : Its E := addIt 2 (i_impl_Crypt_2 N) (noIt)
theorem IT_impl_Crypt_2_ok (N : Nat) : ItOk (IT_impl_Crypt_2 N) 0 61 sl_impl_Crypt (lsB Go.Proofs.Try.f40 [2]) :=
  addItB_ok (inner := []) ok (O_impl_Crypt_ok N) (jn_ok _ _ _) (noIt_ok) rfl (by kernel_rfl) rfl fun vs H KL r h => by
    unfold i_impl_Crypt_2 at h
    split at h
    · exact ⟨_, (le_impl_Crypt_2 N _ _ _ _ _ _ KL N _ _ _).trans h⟩
    · cases h
def s_impl_Crypt_0 (N : Nat) {R : Type} (s2 : ByteArray) (n1 : Int) (b2 : Bool) (n2 : Int) (n3 : Int) (l : List Int) (ag : Int → (List Int) → Option R)  (kN : (List Int) → Option R) : Option R :=
  (cond (decide ((n3 < n2)))
  (cond ((Int.tmod n3 (3 : Int)) == (0 : Int))
    (g_impl_PutWord N n1 fun s3 =>
      (g_impl_PutWord N (Go.IntKind.wrap Go.IntKind.i64 (Int.tdiv n3 (3 : Int))) fun s4 =>
      (g_impl_yjoin_w N Bool.false [s2, s3, s4] fun s5 =>
      (g_impl_ymix N s5 (11 : Int) fun n4 =>
      (c_impl_Crypt_2 N s2 n1 b2 n3 n2 n3 n4 n3 l fun l2 =>
      (ag (Go.IntKind.wrap Go.IntKind.i64 (n3 + (1 : Int))) l2))))))
    (ag (Go.IntKind.wrap Go.IntKind.i64 (n3 + (1 : Int))) l))
  (kN l))
def ga_s_impl_Crypt_0 (N : Nat) (G_impl_ymix : ∀ {R : Type} (s : ByteArray) (n : Int) (k : Int → Option R), Option R) (G_impl_yjoin_w : ∀ {R : Type} (b : Bool) (l : List ByteArray) (k : ByteArray → Option R), Option R) (G_impl_PutWord : ∀ {R : Type} (n : Int) (k : ByteArray → Option R), Option R) (G_impl_ybig_w : ∀ {R : Type} (b : Bool) (l : List ByteArray) (k : Bool → Option R), Option R) (G_impl_ylongKey_w : ∀ {R : Type} (b : Bool) (l : List ByteArray) (k : Bool → Option R), Option R) {R : Type} (s2 : ByteArray) (n1 : Int) (b2 : Bool) (n2 : Int) (n3 : Int) (l : List Int) (ag : Int → (List Int) → Option R)  (kN : (List Int) → Option R) : Option R :=
  (cond (decide ((n3 < n2)))
  (cond ((Int.tmod n3 (3 : Int)) == (0 : Int))
    (G_impl_PutWord n1 fun s3 =>
      (G_impl_PutWord (Go.IntKind.wrap Go.IntKind.i64 (Int.tdiv n3 (3 : Int))) fun s4 =>
      (G_impl_yjoin_w Bool.false [s2, s3, s4] fun s5 =>
      (G_impl_ymix s5 (11 : Int) fun n4 =>
      (c_impl_Crypt_2 N s2 n1 b2 n3 n2 n3 n4 n3 l fun l2 =>
      (ag (Go.IntKind.wrap Go.IntKind.i64 (n3 + (1 : Int))) l2))))))
    (ag (Go.IntKind.wrap Go.IntKind.i64 (n3 + (1 : Int))) l))
  (kN l))
def l_impl_Crypt_0 (N : Nat) {R : Type} (s2 : ByteArray) (n1 : Int) (b2 : Bool) (n2 : Int) (kN : (List Int) → Option R) : Nat → Int → (List Int) → Option R
  | 0, _, _ => none
  | f + 1, n3, l => s_impl_Crypt_0 N s2 n1 b2 n2 n3 l (fun n3 l => l_impl_Crypt_0 N s2 n1 b2 n2 kN f n3 l)  kN
def c_impl_Crypt_0 (N : Nat) {R : Type} (s2 : ByteArray) (n1 : Int) (b2 : Bool) (n2 : Int) (n3 : Int) (l : List Int) (kN : (List Int) → Option R) : Option R := l_impl_Crypt_0 N s2 n1 b2 n2 kN N n3 l
theorem ea_se_impl_Crypt_0 (N : Nat) (G_impl_ymix : ∀ {R : Type} (s : ByteArray) (n : Int) (k : Int → Option R), Option R) (G_impl_yjoin_w : ∀ {R : Type} (b : Bool) (l : List ByteArray) (k : ByteArray → Option R), Option R) (G_impl_PutWord : ∀ {R : Type} (n : Int) (k : ByteArray → Option R), Option R) (G_impl_ybig_w : ∀ {R : Type} (b : Bool) (l : List ByteArray) (k : Bool → Option R), Option R) (G_impl_ylongKey_w : ∀ {R : Type} (b : Bool) (l : List ByteArray) (k : Bool → Option R), Option R) {R : Type} (s2 : ByteArray) (n1 : Int) (b2 : Bool) (n2 : Int) (n3 : Int) (l : List Int) (AG : List (Option AV) → Hp E → Option R) (KL : Ex → List (Option AV) → Hp E → Option R) :
    iterStep (E := E) (OA_impl_Crypt N G_impl_ymix G_impl_yjoin_w G_impl_PutWord G_impl_ybig_w G_impl_ylongKey_w) (fun {R} => LI (IT_impl_Crypt_2 N) 0 61 sl_impl_Crypt (R := R)) J_impl_Crypt 0 61 0 [0, 1, 7, 22, 23] [7] (body Go.Proofs.Try.f40 0) AG KL [(Option.some (Go.Eng.AV.sc (Go.Eng.SV.str s2))), (Option.some (Go.Eng.AV.sc (Go.Eng.SV.int Go.IntKind.i64 n1))), (Option.some (Go.Eng.AV.sc (Go.Eng.SV.slc 0 Option.none b2))), (Option.some (Go.Eng.AV.sc (Go.Eng.SV.int Go.IntKind.i64 n2))), (Option.some (Go.Eng.AV.sc (Go.Eng.SV.int Go.IntKind.i64 n3)))] [(Option.some (Go.Eng.HE.mk Bool.false (Go.Eng.HB.rows (Go.Sa.B.u8 l))))] =
      ga_s_impl_Crypt_0 N G_impl_ymix G_impl_yjoin_w G_impl_PutWord G_impl_ybig_w G_impl_ylongKey_w s2 n1 b2 n2 n3 l (fun n3 l => AG [(Option.some (Go.Eng.AV.sc (Go.Eng.SV.str s2))), (Option.some (Go.Eng.AV.sc (Go.Eng.SV.int Go.IntKind.i64 n1))), (Option.some (Go.Eng.AV.sc (Go.Eng.SV.slc 0 Option.none b2))), (Option.some (Go.Eng.AV.sc (Go.Eng.SV.int Go.IntKind.i64 n2))), (Option.some (Go.Eng.AV.sc (Go.Eng.SV.int Go.IntKind.i64 n3)))] [(Option.some (Go.Eng.HE.mk Bool.false (Go.Eng.HB.rows (Go.Sa.B.u8 l))))])  (fun l6 => KL Go.Eng.Ex.normal [(Option.some (Go.Eng.AV.sc (Go.Eng.SV.slc 0 Option.none b2)))] [(Option.some (Go.Eng.HE.mk Bool.false (Go.Eng.HB.rows (Go.Sa.B.u8 l6))))]) := by kernel_rfl
theorem se_impl_Crypt_0 (N : Nat) {R : Type} (s2 : ByteArray) (n1 : Int) (b2 : Bool) (n2 : Int) (n3 : Int) (l : List Int) (AG : List (Option AV) → Hp E → Option R) (KL : Ex → List (Option AV) → Hp E → Option R) :
    iterStep (E := E) (O_impl_Crypt N) (fun {R} => LI (IT_impl_Crypt_2 N) 0 61 sl_impl_Crypt (R := R)) J_impl_Crypt 0 61 0 [0, 1, 7, 22, 23] [7] (body Go.Proofs.Try.f40 0) AG KL [(Option.some (Go.Eng.AV.sc (Go.Eng.SV.str s2))), (Option.some (Go.Eng.AV.sc (Go.Eng.SV.int Go.IntKind.i64 n1))), (Option.some (Go.Eng.AV.sc (Go.Eng.SV.slc 0 Option.none b2))), (Option.some (Go.Eng.AV.sc (Go.Eng.SV.int Go.IntKind.i64 n2))), (Option.some (Go.Eng.AV.sc (Go.Eng.SV.int Go.IntKind.i64 n3)))] [(Option.some (Go.Eng.HE.mk Bool.false (Go.Eng.HB.rows (Go.Sa.B.u8 l))))] =
      s_impl_Crypt_0 N s2 n1 b2 n2 n3 l (fun n3 l => AG [(Option.some (Go.Eng.AV.sc (Go.Eng.SV.str s2))), (Option.some (Go.Eng.AV.sc (Go.Eng.SV.int Go.IntKind.i64 n1))), (Option.some (Go.Eng.AV.sc (Go.Eng.SV.slc 0 Option.none b2))), (Option.some (Go.Eng.AV.sc (Go.Eng.SV.int Go.IntKind.i64 n2))), (Option.some (Go.Eng.AV.sc (Go.Eng.SV.int Go.IntKind.i64 n3)))] [(Option.some (Go.Eng.HE.mk Bool.false (Go.Eng.HB.rows (Go.Sa.B.u8 l))))])  (fun l6 => KL Go.Eng.Ex.normal [(Option.some (Go.Eng.AV.sc (Go.Eng.SV.slc 0 Option.none b2)))] [(Option.some (Go.Eng.HE.mk Bool.false (Go.Eng.HB.rows (Go.Sa.B.u8 l6))))]) := castPr (by kernel_rfl) (ea_se_impl_Crypt_0 N (g_impl_ymix N) (g_impl_yjoin_w N) (g_impl_PutWord N) (g_impl_ybig_w N) (g_impl_ylongKey_w N) s2 n1 b2 n2 n3 l AG KL)
theorem le_impl_Crypt_0 (N : Nat) {R : Type} (s2 : ByteArray) (n1 : Int) (b2 : Bool) (n2 : Int) (KL : Ex → List (Option AV) → Hp E → Option R) : ∀ (f : Nat), ∀ (n3 : Int) (l : List Int), iterK (E := E) (O_impl_Crypt N) (fun {R} => LI (IT_impl_Crypt_2 N) 0 61 sl_impl_Crypt (R := R)) J_impl_Crypt 0 61 0 [0, 1, 7, 22, 23] [7] (body Go.Proofs.Try.f40 0) f [(Option.some (Go.Eng.AV.sc (Go.Eng.SV.str s2))), (Option.some (Go.Eng.AV.sc (Go.Eng.SV.int Go.IntKind.i64 n1))), (Option.some (Go.Eng.AV.sc (Go.Eng.SV.slc 0 Option.none b2))), (Option.some (Go.Eng.AV.sc (Go.Eng.SV.int Go.IntKind.i64 n2))), (Option.some (Go.Eng.AV.sc (Go.Eng.SV.int Go.IntKind.i64 n3)))] [(Option.some (Go.Eng.HE.mk Bool.false (Go.Eng.HB.rows (Go.Sa.B.u8 l))))] KL = l_impl_Crypt_0 N s2 n1 b2 n2 (fun l6 => KL Go.Eng.Ex.normal [(Option.some (Go.Eng.AV.sc (Go.Eng.SV.slc 0 Option.none b2)))] [(Option.some (Go.Eng.HE.mk Bool.false (Go.Eng.HB.rows (Go.Sa.B.u8 l6))))]) f n3 l := by
  intro f
  induction f with
  | zero => intros; rfl
  | succ f ih =>
    intro n3 l
    rw [iterK_succ, se_impl_Crypt_0]
    exact (congrArg (fun z0 => s_impl_Crypt_0 N s2 n1 b2 n2 n3 l z0 (fun l6 => KL Go.Eng.Ex.normal [(Option.some (Go.Eng.AV.sc (Go.Eng.SV.slc 0 Option.none b2)))] [(Option.some (Go.Eng.HE.mk Bool.false (Go.Eng.HB.rows (Go.Sa.B.u8 l6))))])) (funext fun n3 => funext fun l => ih n3 l))
def i_impl_Crypt_0 (N : Nat) {R : Type} (vs : List (Option AV)) (H : Hp E) (KL : Ex → List (Option AV) → Hp E → Option R) : Option R :=
  match vs, H with
  | [(Option.some (Go.Eng.AV.sc (Go.Eng.SV.str s2))), (Option.some (Go.Eng.AV.sc (Go.Eng.SV.int Go.IntKind.i64 n1))), (Option.some (Go.Eng.AV.sc (Go.Eng.SV.slc 0 Option.none b2))), (Option.some (Go.Eng.AV.sc (Go.Eng.SV.int Go.IntKind.i64 n2))), (Option.some (Go.Eng.AV.sc (Go.Eng.SV.int Go.IntKind.i64 n3)))], [(Option.some (Go.Eng.HE.mk Bool.false (Go.Eng.HB.rows (Go.Sa.B.u8 l))))] => c_impl_Crypt_0 N s2 n1 b2 n2 n3 l (fun l7 => KL Go.Eng.Ex.normal [(Option.some (Go.Eng.AV.sc (Go.Eng.SV.slc 0 Option.none b2)))] [(Option.some (Go.Eng.HE.mk Bool.false (Go.Eng.HB.rows (Go.Sa.B.u8 l7))))])
  | _, _ => none
noncomputable def IT_impl_Crypt_0 (N : Nat) : Its E := addIt 0 (i_impl_Crypt_0 N) (IT_impl_Crypt_2 N)
theorem IT_impl_Crypt_0_ok (N : Nat) : ItOk (IT_impl_Crypt_0 N) 0 61 sl_impl_Crypt (lsB Go.Proofs.Try.f40 [0, 2]) :=
  addItB_ok (inner := [2]) ok (O_impl_Crypt_ok N) (jn_ok _ _ _) (IT_impl_Crypt_2_ok N) rfl (by kernel_rfl) rfl fun vs H KL r h => by
    unfold i_impl_Crypt_0 at h
    split at h
    · exact ⟨_, (le_impl_Crypt_0 N _ _ _ _ KL N _ _).trans h⟩
    · cases h
def g_impl_Crypt (N : Nat) {R : Type} (s : ByteArray) (n : Int) (s1 : ByteArray) (k : ByteArray → Option R) : Option R :=
  (oK (g_impl_ylongKey_w N Bool.false [s] fun b =>
    (cond b
    (some Bool.true)
    (g_impl_ybig_w N Bool.false [s1] fun b1 =>
      (some b1)))) fun j =>
  (cond j
  (k (ByteArray.mk (List.toArray [])))
  (c_impl_Crypt_0 N s n Bool.false (((List.length (Go.Eng.ofBytes s1)) : Nat) : Int) (0 : Int) (Go.Eng.ofBytes s1) fun l3 =>
    (cond (Nat.ble (0 + (List.length l3)) (List.length l3))
    (k (Go.Eng.toBytes (Go.Eng.seg l3 0 (List.length l3))))
    none))))
def ga_g_impl_Crypt (N : Nat) (G_impl_ymix : ∀ {R : Type} (s : ByteArray) (n : Int) (k : Int → Option R), Option R) (G_impl_yjoin_w : ∀ {R : Type} (b : Bool) (l : List ByteArray) (k : ByteArray → Option R), Option R) (G_impl_PutWord : ∀ {R : Type} (n : Int) (k : ByteArray → Option R), Option R) (G_impl_ybig_w : ∀ {R : Type} (b : Bool) (l : List ByteArray) (k : Bool → Option R), Option R) (G_impl_ylongKey_w : ∀ {R : Type} (b : Bool) (l : List ByteArray) (k : Bool → Option R), Option R) {R : Type} (s : ByteArray) (n : Int) (s1 : ByteArray) (k : ByteArray → Option R) : Option R :=
  (oK (G_impl_ylongKey_w Bool.false [s] fun b =>
    (cond b
    (some Bool.true)
    (G_impl_ybig_w Bool.false [s1] fun b1 =>
      (some b1)))) fun j =>
  (cond j
  (k (ByteArray.mk (List.toArray [])))
  (c_impl_Crypt_0 N s n Bool.false (((List.length (Go.Eng.ofBytes s1)) : Nat) : Int) (0 : Int) (Go.Eng.ofBytes s1) fun l3 =>
    (cond (Nat.ble (0 + (List.length l3)) (List.length l3))
    (k (Go.Eng.toBytes (Go.Eng.seg l3 0 (List.length l3))))
    none))))
theorem ea_e_impl_Crypt (N : Nat) (G_impl_ymix : ∀ {R : Type} (s : ByteArray) (n : Int) (k : Int → Option R), Option R) (G_impl_yjoin_w : ∀ {R : Type} (b : Bool) (l : List ByteArray) (k : ByteArray → Option R), Option R) (G_impl_PutWord : ∀ {R : Type} (n : Int) (k : ByteArray → Option R), Option R) (G_impl_ybig_w : ∀ {R : Type} (b : Bool) (l : List ByteArray) (k : Bool → Option R), Option R) (G_impl_ylongKey_w : ∀ {R : Type} (b : Bool) (l : List ByteArray) (k : Bool → Option R), Option R) {R : Type} (s : ByteArray) (n : Int) (s1 : ByteArray) (K : AV → Hp E → Option R) :
    runFnI (E := E) (OA_impl_Crypt N G_impl_ymix G_impl_yjoin_w G_impl_PutWord G_impl_ybig_w G_impl_ylongKey_w) (IT_impl_Crypt_0 N) sl_impl_Crypt J_impl_Crypt Go.Proofs.Try.f40 [(Go.Eng.AV.sc (Go.Eng.SV.str s)), (Go.Eng.AV.sc (Go.Eng.SV.int Go.IntKind.i64 n)), (Go.Eng.AV.sc (Go.Eng.SV.str s1))] [] K =
      ga_g_impl_Crypt N G_impl_ymix G_impl_yjoin_w G_impl_PutWord G_impl_ybig_w G_impl_ylongKey_w s n s1 (fun s7 => K (Go.Eng.AV.sc (Go.Eng.SV.str s7)) []) := by kernel_rfl
theorem e_impl_Crypt (N : Nat) {R : Type} (s : ByteArray) (n : Int) (s1 : ByteArray) (K : AV → Hp E → Option R) :
    runFnI (E := E) (O_impl_Crypt N) (IT_impl_Crypt_0 N) sl_impl_Crypt J_impl_Crypt Go.Proofs.Try.f40 [(Go.Eng.AV.sc (Go.Eng.SV.str s)), (Go.Eng.AV.sc (Go.Eng.SV.int Go.IntKind.i64 n)), (Go.Eng.AV.sc (Go.Eng.SV.str s1))] [] K =
      g_impl_Crypt N s n s1 (fun s7 => K (Go.Eng.AV.sc (Go.Eng.SV.str s7)) []) := castPr (by kernel_rfl) (ea_e_impl_Crypt N (g_impl_ymix N) (g_impl_yjoin_w N) (g_impl_PutWord N) (g_impl_ybig_w N) (g_impl_ylongKey_w N) s n s1 K)
def o_impl_Crypt (N : Nat) {R : Type} (args : List AV) (H : Hp E) (K : AV → Hp E → Option R) : Option R :=
  match args, H with
  | [(Go.Eng.AV.sc (Go.Eng.SV.str s)), (Go.Eng.AV.sc (Go.Eng.SV.int Go.IntKind.i64 n)), (Go.Eng.AV.sc (Go.Eng.SV.str s1))], [] => g_impl_Crypt N s n s1 (fun s7 => K (Go.Eng.AV.sc (Go.Eng.SV.str s7)) [])
  | _, _ => none
theorem o_impl_Crypt_ok (N : Nat) : FnOk E 40 (o_impl_Crypt N) := by
  intro R args H K r h
  unfold o_impl_Crypt at h
  dsimp only at h
  split at h
  · exact fnB_ok (ids := [0, 2]) (top := [0]) ok (O_impl_Crypt_ok N) (jn_ok _ _ _) Go.Proofs.Try.func40 (by kernel_rfl) (IT := IT_impl_Crypt_0 N) (sl := sl_impl_Crypt) (J := J_impl_Crypt) (K := K) (H := []) (IT_impl_Crypt_0_ok N) (by kernel_rfl) rfl ((e_impl_Crypt N _ _ _ K).trans h)
  · cases h
/-! ### loop.example/g00038/impl.TagOf -/
abbrev sl_impl_TagOf : SlotT := []
abbrev J_impl_TagOf : JT := jn [] [] []
noncomputable def O_impl_TagOf (N : Nat) : Orc E := addFn 69 (o_impl_PutWord N) (addFn 67 (o_impl_ymix N) (addFn 57 (o_impl_ylongKey_w N) (noFn)))
theorem O_impl_TagOf_ok (N : Nat) : OrcOk (O_impl_TagOf N) := addFn_ok (o_impl_PutWord_ok N) (addFn_ok (o_impl_ymix_ok N) (addFn_ok (o_impl_ylongKey_w_ok N) (noFn_ok)))
def g_impl_TagOf (N : Nat) {R : Type} (s : ByteArray) (s1 : ByteArray) (k : ByteArray → Option R) : Option R :=
  (g_impl_ylongKey_w N Bool.false [s, s1] fun b =>
  (cond b
  (k (ByteArray.mk (List.toArray [])))
  (cond (Nat.ble ((ByteArray.size s) + (ByteArray.size s1)) 9223372036854775807)
    (g_impl_ymix N (s ++ s1) (21 : Int) fun n =>
      (g_impl_PutWord N n fun s2 =>
      (cond (Nat.ble ((ByteArray.size s1) + (ByteArray.size s)) 9223372036854775807)
      (g_impl_ymix N (s1 ++ s) (22 : Int) fun n1 =>
        (g_impl_PutWord N n1 fun s3 =>
        (cond (Nat.ble ((ByteArray.size s2) + (ByteArray.size s3)) 9223372036854775807)
        (k (s2 ++ s3))
        none)))
      none)))
    none)))
theorem e_impl_TagOf (N : Nat) {R : Type} (s : ByteArray) (s1 : ByteArray) (K : AV → Hp E → Option R) :
    runFnI (E := E) (O_impl_TagOf N) (noIt) sl_impl_TagOf J_impl_TagOf Go.Proofs.Try.f60 [(Go.Eng.AV.sc (Go.Eng.SV.str s)), (Go.Eng.AV.sc (Go.Eng.SV.str s1))] [] K =
      g_impl_TagOf N s s1 (fun s4 => K (Go.Eng.AV.sc (Go.Eng.SV.str s4)) []) := by kernel_rfl
def o_impl_TagOf (N : Nat) {R : Type} (args : List AV) (H : Hp E) (K : AV → Hp E → Option R) : Option R :=
  match args, H with
  | [(Go.Eng.AV.sc (Go.Eng.SV.str s)), (Go.Eng.AV.sc (Go.Eng.SV.str s1))], [] => g_impl_TagOf N s s1 (fun s4 => K (Go.Eng.AV.sc (Go.Eng.SV.str s4)) [])
  | _, _ => none
theorem o_impl_TagOf_ok (N : Nat) : FnOk E 60 (o_impl_TagOf N) := by
  intro R args H K r h
  unfold o_impl_TagOf at h
  dsimp only at h
  split at h
  · exact fnB_ok (ids := []) (top := []) ok (O_impl_TagOf_ok N) (jn_ok _ _ _) Go.Proofs.Try.func60 (by kernel_rfl) (IT := noIt) (sl := sl_impl_TagOf) (J := J_impl_TagOf) (K := K) (H := []) (noIt_ok) (by kernel_rfl) rfl ((e_impl_TagOf N _ _ K).trans h)
  · cases h
/-! ### loop.example/g00038/impl.yslot -/
abbrev sl_impl_yslot : SlotT := []
abbrev J_impl_yslot : JT := jn [] [] []
noncomputable def O_impl_yslot (N : Nat) : Orc E := addFn 60 (o_impl_TagOf N) (addFn 40 (o_impl_Crypt N) (noFn))
def pa_impl_yslot__o_impl_TagOf (N : Nat) (G_impl_TagOf : ∀ {R : Type} (s : ByteArray) (s1 : ByteArray) (k : ByteArray → Option R), Option R) (G_impl_Crypt : ∀ {R : Type} (s : ByteArray) (n : Int) (s1 : ByteArray) (k : ByteArray → Option R), Option R) {R : Type} (args : List AV) (H : Hp E) (K : AV → Hp E → Option R) : Option R :=
  match args, H with
  | [(Go.Eng.AV.sc (Go.Eng.SV.str s)), (Go.Eng.AV.sc (Go.Eng.SV.str s1))], [] => G_impl_TagOf s s1 (fun s4 => K (Go.Eng.AV.sc (Go.Eng.SV.str s4)) [])
  | _, _ => none
def pa_impl_yslot__o_impl_Crypt (N : Nat) (G_impl_TagOf : ∀ {R : Type} (s : ByteArray) (s1 : ByteArray) (k : ByteArray → Option R), Option R) (G_impl_Crypt : ∀ {R : Type} (s : ByteArray) (n : Int) (s1 : ByteArray) (k : ByteArray → Option R), Option R) {R : Type} (args : List AV) (H : Hp E) (K : AV → Hp E → Option R) : Option R :=
  match args, H with
  | [(Go.Eng.AV.sc (Go.Eng.SV.str s)), (Go.Eng.AV.sc (Go.Eng.SV.int Go.IntKind.i64 n)), (Go.Eng.AV.sc (Go.Eng.SV.str s1))], [] => G_impl_Crypt s n s1 (fun s7 => K (Go.Eng.AV.sc (Go.Eng.SV.str s7)) [])
  | _, _ => none
noncomputable def OA_impl_yslot (N : Nat) (G_impl_TagOf : ∀ {R : Type} (s : ByteArray) (s1 : ByteArray) (k : ByteArray → Option R), Option R) (G_impl_Crypt : ∀ {R : Type} (s : ByteArray) (n : Int) (s1 : ByteArray) (k : ByteArray → Option R), Option R) : Orc E := addFn 60 (pa_impl_yslot__o_impl_TagOf N G_impl_TagOf G_impl_Crypt) (addFn 40 (pa_impl_yslot__o_impl_Crypt N G_impl_TagOf G_impl_Crypt) (noFn))
theorem O_impl_yslot_ok (N : Nat) : OrcOk (O_impl_yslot N) := addFn_ok (o_impl_TagOf_ok N) (addFn_ok (o_impl_Crypt_ok N) (noFn_ok))
def g_impl_yslot (N : Nat) {R : Type} (s : ByteArray) (s1 : ByteArray) (n : Int) (k : ByteArray → ByteArray → Option R) : Option R :=
  (g_impl_Crypt N s1 n s fun s2 =>
  (g_impl_TagOf N s1 s2 fun s3 =>
  (k s2 s3)))
def ga_g_impl_yslot (N : Nat) (G_impl_TagOf : ∀ {R : Type} (s : ByteArray) (s1 : ByteArray) (k : ByteArray → Option R), Option R) (G_impl_Crypt : ∀ {R : Type} (s : ByteArray) (n : Int) (s1 : ByteArray) (k : ByteArray → Option R), Option R) {R : Type} (s : ByteArray) (s1 : ByteArray) (n : Int) (k : ByteArray → ByteArray → Option R) : Option R :=
  (G_impl_Crypt s1 n s fun s2 =>
  (G_impl_TagOf s1 s2 fun s3 =>
  (k s2 s3)))
theorem ea_e_impl_yslot (N : Nat) (G_impl_TagOf : ∀ {R : Type} (s : ByteArray) (s1 : ByteArray) (k : ByteArray → Option R), Option R) (G_impl_Crypt : ∀ {R : Type} (s : ByteArray) (n : Int) (s1 : ByteArray) (k : ByteArray → Option R), Option R) {R : Type} (s : ByteArray) (s1 : ByteArray) (n : Int) (K : AV → Hp E → Option R) :
    runFnI (E := E) (OA_impl_yslot N G_impl_TagOf G_impl_Crypt) (noIt) sl_impl_yslot J_impl_yslot Go.Proofs.Try.f81 [(Go.Eng.AV.sc (Go.Eng.SV.str s)), (Go.Eng.AV.sc (Go.Eng.SV.str s1)), (Go.Eng.AV.sc (Go.Eng.SV.int Go.IntKind.i64 n))] [] K =
      ga_g_impl_yslot N G_impl_TagOf G_impl_Crypt s s1 n (fun s4 s5 => K (Go.Eng.AV.agg [(Go.Eng.SV.int Go.IntKind.i64 n), (Go.Eng.SV.str s4), (Go.Eng.SV.str s5)]) []) := by kernel_rfl
theorem e_impl_yslot (N : Nat) {R : Type} (s : ByteArray) (s1 : ByteArray) (n : Int) (K : AV → Hp E → Option R) :
    runFnI (E := E) (O_impl_yslot N) (noIt) sl_impl_yslot J_impl_yslot Go.Proofs.Try.f81 [(Go.Eng.AV.sc (Go.Eng.SV.str s)), (Go.Eng.AV.sc (Go.Eng.SV.str s1)), (Go.Eng.AV.sc (Go.Eng.SV.int Go.IntKind.i64 n))] [] K =
      g_impl_yslot N s s1 n (fun s4 s5 => K (Go.Eng.AV.agg [(Go.Eng.SV.int Go.IntKind.i64 n), (Go.Eng.SV.str s4), (Go.Eng.SV.str s5)]) []) := castPr (by kernel_rfl) (ea_e_impl_yslot N (g_impl_TagOf N) (g_impl_Crypt N) s s1 n K)
def o_impl_yslot (N : Nat) {R : Type} (args : List AV) (H : Hp E) (K : AV → Hp E → Option R) : Option R :=
  match args, H with
  | [(Go.Eng.AV.sc (Go.Eng.SV.str s)), (Go.Eng.AV.sc (Go.Eng.SV.str s1)), (Go.Eng.AV.sc (Go.Eng.SV.int Go.IntKind.i64 n))], [] => g_impl_yslot N s s1 n (fun s4 s5 => K (Go.Eng.AV.agg [(Go.Eng.SV.int Go.IntKind.i64 n), (Go.Eng.SV.str s4), (Go.Eng.SV.str s5)]) [])
  | _, _ => none
theorem o_impl_yslot_ok (N : Nat) : FnOk E 81 (o_impl_yslot N) := by
  intro R args H K r h
  unfold o_impl_yslot at h
  dsimp only at h
  split at h
  · exact fnB_ok (ids := []) (top := []) ok (O_impl_yslot_ok N) (jn_ok _ _ _) Go.Proofs.Try.func81 (by kernel_rfl) (IT := noIt) (sl := sl_impl_yslot) (J := J_impl_yslot) (K := K) (H := []) (noIt_ok) (by kernel_rfl) rfl ((e_impl_yslot N _ _ _ K).trans h)
  · cases h
/-! ### loop.example/g00038/impl.MakeVolume -/
abbrev sl_impl_MakeVolume : SlotT := []
abbrev J_impl_MakeVolume : JT := jn [(3, [(19, .b)])] [] []
noncomputable def O_impl_MakeVolume (N : Nat) : Orc E := addFn 60 (o_impl_TagOf N) (addFn 81 (o_impl_yslot N) (addFn 80 (o_impl_yisWord N) (addFn 57 (o_impl_ylongKey_w N) (noFn))))
def pa_impl_MakeVolume__o_impl_TagOf (N : Nat) (G_impl_TagOf : ∀ {R : Type} (s : ByteArray) (s1 : ByteArray) (k : ByteArray → Option R), Option R) (G_impl_yslot : ∀ {R : Type} (s : ByteArray) (s1 : ByteArray) (n : Int) (k : ByteArray → ByteArray → Option R), Option R) (G_impl_yisWord : ∀ {R : Type} (n : Int) (k : Bool → Option R), Option R) (G_impl_ylongKey_w : ∀ {R : Type} (b : Bool) (l : List ByteArray) (k : Bool → Option R), Option R) {R : Type} (args : List AV) (H : Hp E) (K : AV → Hp E → Option R) : Option R :=
  match args, H with
  | [(Go.Eng.AV.sc (Go.Eng.SV.str s)), (Go.Eng.AV.sc (Go.Eng.SV.str s1))], [] => G_impl_TagOf s s1 (fun s4 => K (Go.Eng.AV.sc (Go.Eng.SV.str s4)) [])
  | _, _ => none
def pa_impl_MakeVolume__o_impl_yslot (N : Nat) (G_impl_TagOf : ∀ {R : Type} (s : ByteArray) (s1 : ByteArray) (k : ByteArray → Option R), Option R) (G_impl_yslot : ∀ {R : Type} (s : ByteArray) (s1 : ByteArray) (n : Int) (k : ByteArray → ByteArray → Option R), Option R) (G_impl_yisWord : ∀ {R : Type} (n : Int) (k : Bool → Option R), Option R) (G_impl_ylongKey_w : ∀ {R : Type} (b : Bool) (l : List ByteArray) (k : Bool → Option R), Option R) {R : Type} (args : List AV) (H : Hp E) (K : AV → Hp E → Option R) : Option R :=
  match args, H with
  | [(Go.Eng.AV.sc (Go.Eng.SV.str s)), (Go.Eng.AV.sc (Go.Eng.SV.str s1)), (Go.Eng.AV.sc (Go.Eng.SV.int Go.IntKind.i64 n))], [] => G_impl_yslot s s1 n (fun s4 s5 => K (Go.Eng.AV.agg [(Go.Eng.SV.int Go.IntKind.i64 n), (Go.Eng.SV.str s4), (Go.Eng.SV.str s5)]) [])
  | _, _ => none
def pa_impl_MakeVolume__o_impl_yisWord (N : Nat) (G_impl_TagOf : ∀ {R : Type} (s : ByteArray) (s1 : ByteArray) (k : ByteArray → Option R), Option R) (G_impl_yslot : ∀ {R : Type} (s : ByteArray) (s1 : ByteArray) (n : Int) (k : ByteArray → ByteArray → Option R), Option R) (G_impl_yisWord : ∀ {R : Type} (n : Int) (k : Bool → Option R), Option R) (G_impl_ylongKey_w : ∀ {R : Type} (b : Bool) (l : List ByteArray) (k : Bool → Option R), Option R) {R : Type} (args : List AV) (H : Hp E) (K : AV → Hp E → Option R) : Option R :=
  match args, H with
  | [(Go.Eng.AV.sc (Go.Eng.SV.int Go.IntKind.i64 n))], [] => G_impl_yisWord n (fun b => K (Go.Eng.AV.sc (Go.Eng.SV.bool b)) [])
  | _, _ => none
def pa_impl_MakeVolume__o_impl_ylongKey_w (N : Nat) (G_impl_TagOf : ∀ {R : Type} (s : ByteArray) (s1 : ByteArray) (k : ByteArray → Option R), Option R) (G_impl_yslot : ∀ {R : Type} (s : ByteArray) (s1 : ByteArray) (n : Int) (k : ByteArray → ByteArray → Option R), Option R) (G_impl_yisWord : ∀ {R : Type} (n : Int) (k : Bool → Option R), Option R) (G_impl_ylongKey_w : ∀ {R : Type} (b : Bool) (l : List ByteArray) (k : Bool → Option R), Option R) {R : Type} (args : List AV) (H : Hp E) (K : AV → Hp E → Option R) : Option R :=
  match args, H with
  | [(Go.Eng.AV.sc (Go.Eng.SV.slc 0 Option.none b))], [(Option.some (Go.Eng.HE.mk Bool.false (Go.Eng.HB.rows (Go.Sa.B.str l))))] => G_impl_ylongKey_w b l (fun b2 => K (Go.Eng.AV.sc (Go.Eng.SV.bool b2)) [(Option.some (Go.Eng.HE.mk Bool.false (Go.Eng.HB.rows (Go.Sa.B.str l))))])
  | _, _ => none
noncomputable def OA_impl_MakeVolume (N : Nat) (G_impl_TagOf : ∀ {R : Type} (s : ByteArray) (s1 : ByteArray) (k : ByteArray → Option R), Option R) (G_impl_yslot : ∀ {R : Type} (s : ByteArray) (s1 : ByteArray) (n : Int) (k : ByteArray → ByteArray → Option R), Option R) (G_impl_yisWord : ∀ {R : Type} (n : Int) (k : Bool → Option R), Option R) (G_impl_ylongKey_w : ∀ {R : Type} (b : Bool) (l : List ByteArray) (k : Bool → Option R), Option R) : Orc E := addFn 60 (pa_impl_MakeVolume__o_impl_TagOf N G_impl_TagOf G_impl_yslot G_impl_yisWord G_impl_ylongKey_w) (addFn 81 (pa_impl_MakeVolume__o_impl_yslot N G_impl_TagOf G_impl_yslot G_impl_yisWord G_impl_ylongKey_w) (addFn 80 (pa_impl_MakeVolume__o_impl_yisWord N G_impl_TagOf G_impl_yslot G_impl_yisWord G_impl_ylongKey_w) (addFn 57 (pa_impl_MakeVolume__o_impl_ylongKey_w N G_impl_TagOf G_impl_yslot G_impl_yisWord G_impl_ylongKey_w) (noFn))))
theorem O_impl_MakeVolume_ok (N : Nat) : OrcOk (O_impl_MakeVolume N) := addFn_ok (o_impl_TagOf_ok N) (addFn_ok (o_impl_yslot_ok N) (addFn_ok (o_impl_yisWord_ok N) (addFn_ok (o_impl_ylongKey_w_ok N) (noFn_ok))))
def g_impl_MakeVolume (N : Nat) {R : Type} (s : ByteArray) (s1 : ByteArray) (n : Int) (k : Int → Bool → ByteArray → (List Go.Sa.KeySlot) → Option R) : Option R :=
  (g_impl_ylongKey_w N Bool.false [s, s1] fun b =>
  (cond b
  (k (2 : Int) Bool.true (ByteArray.mk (List.toArray [])) [])
  (oK (cond ((((ByteArray.size s) : Nat) : Int) != (16 : Int))
      (some Bool.true)
      (g_impl_yisWord N n fun b1 =>
        (some (!b1)))) fun j =>
    (cond j
    (k (1 : Int) Bool.true (ByteArray.mk (List.toArray [])) [])
    (g_impl_yslot N s s1 n fun s2 s3 =>
      (g_impl_TagOf N s (ByteArray.mk (List.toArray [])) fun s4 =>
      (k (0 : Int) Bool.false s4 [(Go.Sa.KeySlot.mk n s2 s3)])))))))
def ga_g_impl_MakeVolume (N : Nat) (G_impl_TagOf : ∀ {R : Type} (s : ByteArray) (s1 : ByteArray) (k : ByteArray → Option R), Option R) (G_impl_yslot : ∀ {R : Type} (s : ByteArray) (s1 : ByteArray) (n : Int) (k : ByteArray → ByteArray → Option R), Option R) (G_impl_yisWord : ∀ {R : Type} (n : Int) (k : Bool → Option R), Option R) (G_impl_ylongKey_w : ∀ {R : Type} (b : Bool) (l : List ByteArray) (k : Bool → Option R), Option R) {R : Type} (s : ByteArray) (s1 : ByteArray) (n : Int) (k : Int → Bool → ByteArray → (List Go.Sa.KeySlot) → Option R) : Option R :=
  (G_impl_ylongKey_w Bool.false [s, s1] fun b =>
  (cond b
  (k (2 : Int) Bool.true (ByteArray.mk (List.toArray [])) [])
  (oK (cond ((((ByteArray.size s) : Nat) : Int) != (16 : Int))
      (some Bool.true)
      (G_impl_yisWord n fun b1 =>
        (some (!b1)))) fun j =>
    (cond j
    (k (1 : Int) Bool.true (ByteArray.mk (List.toArray [])) [])
    (G_impl_yslot s s1 n fun s2 s3 =>
      (G_impl_TagOf s (ByteArray.mk (List.toArray [])) fun s4 =>
      (k (0 : Int) Bool.false s4 [(Go.Sa.KeySlot.mk n s2 s3)])))))))
theorem ea_e_impl_MakeVolume (N : Nat) (G_impl_TagOf : ∀ {R : Type} (s : ByteArray) (s1 : ByteArray) (k : ByteArray → Option R), Option R) (G_impl_yslot : ∀ {R : Type} (s : ByteArray) (s1 : ByteArray) (n : Int) (k : ByteArray → ByteArray → Option R), Option R) (G_impl_yisWord : ∀ {R : Type} (n : Int) (k : Bool → Option R), Option R) (G_impl_ylongKey_w : ∀ {R : Type} (b : Bool) (l : List ByteArray) (k : Bool → Option R), Option R) {R : Type} (s : ByteArray) (s1 : ByteArray) (n : Int) (K : AV → Hp E → Option R) :
    runFnI (E := E) (OA_impl_MakeVolume N G_impl_TagOf G_impl_yslot G_impl_yisWord G_impl_ylongKey_w) (noIt) sl_impl_MakeVolume J_impl_MakeVolume Go.Proofs.Try.f30 [(Go.Eng.AV.sc (Go.Eng.SV.str s)), (Go.Eng.AV.sc (Go.Eng.SV.str s1)), (Go.Eng.AV.sc (Go.Eng.SV.int Go.IntKind.i64 n))] [] K =
      ga_g_impl_MakeVolume N G_impl_TagOf G_impl_yslot G_impl_yisWord G_impl_ylongKey_w s s1 n (fun n1 b2 s5 l => K (Go.Eng.AV.agg [(Go.Eng.SV.int Go.IntKind.i64 n1), (Go.Eng.SV.slc 0 Option.none b2), (Go.Eng.SV.str s5)]) [(Option.some (Go.Eng.HE.mk Bool.false (Go.Eng.HB.rows (Go.Sa.B.iKeySlot l))))]) := by kernel_rfl
theorem e_impl_MakeVolume (N : Nat) {R : Type} (s : ByteArray) (s1 : ByteArray) (n : Int) (K : AV → Hp E → Option R) :
    runFnI (E := E) (O_impl_MakeVolume N) (noIt) sl_impl_MakeVolume J_impl_MakeVolume Go.Proofs.Try.f30 [(Go.Eng.AV.sc (Go.Eng.SV.str s)), (Go.Eng.AV.sc (Go.Eng.SV.str s1)), (Go.Eng.AV.sc (Go.Eng.SV.int Go.IntKind.i64 n))] [] K =
      g_impl_MakeVolume N s s1 n (fun n1 b2 s5 l => K (Go.Eng.AV.agg [(Go.Eng.SV.int Go.IntKind.i64 n1), (Go.Eng.SV.slc 0 Option.none b2), (Go.Eng.SV.str s5)]) [(Option.some (Go.Eng.HE.mk Bool.false (Go.Eng.HB.rows (Go.Sa.B.iKeySlot l))))]) := castPr (by kernel_rfl) (ea_e_impl_MakeVolume N (g_impl_TagOf N) (g_impl_yslot N) (g_impl_yisWord N) (g_impl_ylongKey_w N) s s1 n K)
def o_impl_MakeVolume (N : Nat) {R : Type} (args : List AV) (H : Hp E) (K : AV → Hp E → Option R) : Option R :=
  match args, H with
  | [(Go.Eng.AV.sc (Go.Eng.SV.str s)), (Go.Eng.AV.sc (Go.Eng.SV.str s1)), (Go.Eng.AV.sc (Go.Eng.SV.int Go.IntKind.i64 n))], [] => g_impl_MakeVolume N s s1 n (fun n1 b2 s5 l => K (Go.Eng.AV.agg [(Go.Eng.SV.int Go.IntKind.i64 n1), (Go.Eng.SV.slc 0 Option.none b2), (Go.Eng.SV.str s5)]) [(Option.some (Go.Eng.HE.mk Bool.false (Go.Eng.HB.rows (Go.Sa.B.iKeySlot l))))])
  | _, _ => none
theorem o_impl_MakeVolume_ok (N : Nat) : FnOk E 30 (o_impl_MakeVolume N) := by
  intro R args H K r h
  unfold o_impl_MakeVolume at h
  dsimp only at h
  split at h
  · exact fnB_ok (ids := []) (top := []) ok (O_impl_MakeVolume_ok N) (jn_ok _ _ _) Go.Proofs.Try.func30 (by kernel_rfl) (IT := noIt) (sl := sl_impl_MakeVolume) (J := J_impl_MakeVolume) (K := K) (H := []) (noIt_ok) (by kernel_rfl) rfl ((e_impl_MakeVolume N _ _ _ K).trans h)
  · cases h
/-! ### loop.example/g00038/impl.yin -/
abbrev sl_impl_yin : SlotT := []
abbrev J_impl_yin : JT := jn [(1, [(6, .b)])] [] []
noncomputable def O_impl_yin (N : Nat) : Orc E := noFn
theorem O_impl_yin_ok (N : Nat) : OrcOk (O_impl_yin N) := noFn_ok
def g_impl_yin (N : Nat) {R : Type} (n : Int) (n1 : Int) (n2 : Int) (k : Bool → Option R) : Option R :=
  (oK (cond (decide ((n ≥ n1)))
    (some (decide ((n ≤ n2))))
    (some Bool.false)) fun j =>
  (k j))
theorem e_impl_yin (N : Nat) {R : Type} (n : Int) (n1 : Int) (n2 : Int) (K : AV → Hp E → Option R) :
    runFnI (E := E) (O_impl_yin N) (noIt) sl_impl_yin J_impl_yin Go.Proofs.Try.f77 [(Go.Eng.AV.sc (Go.Eng.SV.int Go.IntKind.i64 n)), (Go.Eng.AV.sc (Go.Eng.SV.int Go.IntKind.i64 n1)), (Go.Eng.AV.sc (Go.Eng.SV.int Go.IntKind.i64 n2))] [] K =
      g_impl_yin N n n1 n2 (fun b => K (Go.Eng.AV.sc (Go.Eng.SV.bool b)) []) := by kernel_rfl
def o_impl_yin (N : Nat) {R : Type} (args : List AV) (H : Hp E) (K : AV → Hp E → Option R) : Option R :=
  match args, H with
  | [(Go.Eng.AV.sc (Go.Eng.SV.int Go.IntKind.i64 n)), (Go.Eng.AV.sc (Go.Eng.SV.int Go.IntKind.i64 n1)), (Go.Eng.AV.sc (Go.Eng.SV.int Go.IntKind.i64 n2))], [] => g_impl_yin N n n1 n2 (fun b => K (Go.Eng.AV.sc (Go.Eng.SV.bool b)) [])
  | _, _ => none
theorem o_impl_yin_ok (N : Nat) : FnOk E 77 (o_impl_yin N) := by
  intro R args H K r h
  unfold o_impl_yin at h
  dsimp only at h
  split at h
  · exact fnB_ok (ids := []) (top := []) ok (O_impl_yin_ok N) (jn_ok _ _ _) Go.Proofs.Try.func77 (by kernel_rfl) (IT := noIt) (sl := sl_impl_yin) (J := J_impl_yin) (K := K) (H := []) (noIt_ok) (by kernel_rfl) rfl ((e_impl_yin N _ _ _ K).trans h)
  · cases h
/-! ### loop.example/g00038/impl.VolumeFault$1 -/
abbrev sl_impl_VolumeFault_1 : SlotT := []
abbrev J_impl_VolumeFault_1 : JT := jn [(1, [(2, .b)])] [] []
noncomputable def O_impl_VolumeFault_1 (N : Nat) : Orc E := addFn 80 (o_impl_yisWord N) (noFn)
theorem O_impl_VolumeFault_1_ok (N : Nat) : OrcOk (O_impl_VolumeFault_1 N) := addFn_ok (o_impl_yisWord_ok N) (noFn_ok)
def g_impl_VolumeFault_1 (N : Nat) {R : Type} (n : Int) (s : ByteArray) (s1 : ByteArray) (k : Bool → Option R) : Option R :=
  (oK (g_impl_yisWord N n fun b =>
    (cond (!b)
    (some Bool.true)
    (cond ((((ByteArray.size s) : Nat) : Int) != (16 : Int))
      (some Bool.true)
      (some ((((ByteArray.size s1) : Nat) : Int) != (8 : Int)))))) fun j =>
  (k j))
theorem e_impl_VolumeFault_1 (N : Nat) {R : Type} (n : Int) (s : ByteArray) (s1 : ByteArray) (K : AV → Hp E → Option R) :
    runFnI (E := E) (O_impl_VolumeFault_1 N) (noIt) sl_impl_VolumeFault_1 J_impl_VolumeFault_1 Go.Proofs.Try.f118 [(Go.Eng.AV.agg [(Go.Eng.SV.int Go.IntKind.i64 n), (Go.Eng.SV.str s), (Go.Eng.SV.str s1)])] [] K =
      g_impl_VolumeFault_1 N n s s1 (fun b1 => K (Go.Eng.AV.sc (Go.Eng.SV.bool b1)) []) := by kernel_rfl
def o_impl_VolumeFault_1 (N : Nat) {R : Type} (args : List AV) (H : Hp E) (K : AV → Hp E → Option R) : Option R :=
  match args, H with
  | [(Go.Eng.AV.agg [(Go.Eng.SV.int Go.IntKind.i64 n), (Go.Eng.SV.str s), (Go.Eng.SV.str s1)])], [] => g_impl_VolumeFault_1 N n s s1 (fun b1 => K (Go.Eng.AV.sc (Go.Eng.SV.bool b1)) [])
  | _, _ => none
theorem o_impl_VolumeFault_1_ok (N : Nat) : FnOk E 118 (o_impl_VolumeFault_1 N) := by
  intro R args H K r h
  unfold o_impl_VolumeFault_1 at h
  dsimp only at h
  split at h
  · exact fnB_ok (ids := []) (top := []) ok (O_impl_VolumeFault_1_ok N) (jn_ok _ _ _) Go.Proofs.Try.func118 (by kernel_rfl) (IT := noIt) (sl := sl_impl_VolumeFault_1) (J := J_impl_VolumeFault_1) (K := K) (H := []) (noIt_ok) (by kernel_rfl) rfl ((e_impl_VolumeFault_1 N _ _ _ K).trans h)
  · cases h
/-! ### slices.IndexFunc[[]loop.example/g00038/impl.KeySlot,loop.example/g00038/impl.KeySlot] -/
abbrev sl_slices_IndexFunc_KeySlot_Fimpl_VolumeFault_1_r : SlotT := [(0, ([0, 1, 7, 8], [4]))]
abbrev J_slices_IndexFunc_KeySlot_Fimpl_VolumeFault_1_r : JT := jn [] [] []
noncomputable def O_slices_IndexFunc_KeySlot_Fimpl_VolumeFault_1_r (N : Nat) : Orc E := addFn 118 (o_impl_VolumeFault_1 N) (noFn)
theorem O_slices_IndexFunc_KeySlot_Fimpl_VolumeFault_1_r_ok (N : Nat) : OrcOk (O_slices_IndexFunc_KeySlot_Fimpl_VolumeFault_1_r N) := addFn_ok (o_impl_VolumeFault_1_ok N) (noFn_ok)
def s_slices_IndexFunc_KeySlot_Fimpl_VolumeFault_1_r_0 (N : Nat) {R : Type} (b1 : Bool) (n : Int) (l1 : List Go.Sa.KeySlot) (n1 : Int) (ag : Int → Option R)  (kR : Int → Option R) (kN : Option R) : Option R :=
  (cond (decide ((n1 < n)))
  (cond ((decide (((0 : Int) ≤ n1))) && (decide ((n1 < (((List.length l1) : Nat) : Int)))))
    (elemK l1 (Int.toNat n1) fun x =>
      (g_impl_VolumeFault_1 N (Go.Sa.KeySlot.fSalt x) (Go.Sa.KeySlot.fKey x) (Go.Sa.KeySlot.fTag x) fun b2 =>
      (cond b2
      (kR n1)
      (ag (Go.IntKind.wrap Go.IntKind.i64 (n1 + (1 : Int)))))))
    none)
  kN)
def l_slices_IndexFunc_KeySlot_Fimpl_VolumeFault_1_r_0 (N : Nat) {R : Type} (b1 : Bool) (n : Int) (l1 : List Go.Sa.KeySlot) (kR : Int → Option R) (kN : Option R) : Nat → Int → Option R
  | 0, _ => none
  | f + 1, n1 => s_slices_IndexFunc_KeySlot_Fimpl_VolumeFault_1_r_0 N b1 n l1 n1 (fun n1 => l_slices_IndexFunc_KeySlot_Fimpl_VolumeFault_1_r_0 N b1 n l1 kR kN f n1)  kR kN
def c_slices_IndexFunc_KeySlot_Fimpl_VolumeFault_1_r_0 (N : Nat) {R : Type} (b1 : Bool) (n : Int) (l1 : List Go.Sa.KeySlot) (n1 : Int) (kR : Int → Option R) (kN : Option R) : Option R := l_slices_IndexFunc_KeySlot_Fimpl_VolumeFault_1_r_0 N b1 n l1 kR kN N n1
theorem se_slices_IndexFunc_KeySlot_Fimpl_VolumeFault_1_r_0 (N : Nat) {R : Type} (b1 : Bool) (n : Int) (l1 : List Go.Sa.KeySlot) (n1 : Int) (AG : List (Option AV) → Hp E → Option R) (KL : Ex → List (Option AV) → Hp E → Option R) :
    iterStep (E := E) (O_slices_IndexFunc_KeySlot_Fimpl_VolumeFault_1_r N) (fun {R} => LI (noIt) 1 19 sl_slices_IndexFunc_KeySlot_Fimpl_VolumeFault_1_r (R := R)) J_slices_IndexFunc_KeySlot_Fimpl_VolumeFault_1_r 1 19 0 [0, 1, 7, 8] [4] (body Go.Proofs.Try.f126 0) AG KL [(Option.some (Go.Eng.AV.sc (Go.Eng.SV.slc 0 Option.none b1))), (Option.some (Go.Eng.AV.sc (Go.Eng.SV.fn 118 []))), (Option.some (Go.Eng.AV.sc (Go.Eng.SV.int Go.IntKind.i64 n))), (Option.some (Go.Eng.AV.sc (Go.Eng.SV.int Go.IntKind.i64 n1)))] [(Option.some (Go.Eng.HE.mk Bool.true (Go.Eng.HB.rows (Go.Sa.B.iKeySlot l1))))] =
      s_slices_IndexFunc_KeySlot_Fimpl_VolumeFault_1_r_0 N b1 n l1 n1 (fun n1 => AG [(Option.some (Go.Eng.AV.sc (Go.Eng.SV.slc 0 Option.none b1))), (Option.some (Go.Eng.AV.sc (Go.Eng.SV.fn 118 []))), (Option.some (Go.Eng.AV.sc (Go.Eng.SV.int Go.IntKind.i64 n))), (Option.some (Go.Eng.AV.sc (Go.Eng.SV.int Go.IntKind.i64 n1)))] [(Option.some (Go.Eng.HE.mk Bool.true (Go.Eng.HB.rows (Go.Sa.B.iKeySlot l1))))])  (fun n4 => KL Go.Eng.Ex.ret [(Option.some (Go.Eng.AV.sc (Go.Eng.SV.int Go.IntKind.i64 n4)))] [(Option.some (Go.Eng.HE.mk Bool.true (Go.Eng.HB.rows (Go.Sa.B.iKeySlot l1))))]) (KL Go.Eng.Ex.normal [Option.none] [(Option.some (Go.Eng.HE.mk Bool.true (Go.Eng.HB.rows (Go.Sa.B.iKeySlot l1))))]) := by kernel_rfl
theorem le_slices_IndexFunc_KeySlot_Fimpl_VolumeFault_1_r_0 (N : Nat) {R : Type} (b1 : Bool) (n : Int) (l1 : List Go.Sa.KeySlot) (KL : Ex → List (Option AV) → Hp E → Option R) : ∀ (f : Nat), ∀ (n1 : Int), iterK (E := E) (O_slices_IndexFunc_KeySlot_Fimpl_VolumeFault_1_r N) (fun {R} => LI (noIt) 1 19 sl_slices_IndexFunc_KeySlot_Fimpl_VolumeFault_1_r (R := R)) J_slices_IndexFunc_KeySlot_Fimpl_VolumeFault_1_r 1 19 0 [0, 1, 7, 8] [4] (body Go.Proofs.Try.f126 0) f [(Option.some (Go.Eng.AV.sc (Go.Eng.SV.slc 0 Option.none b1))), (Option.some (Go.Eng.AV.sc (Go.Eng.SV.fn 118 []))), (Option.some (Go.Eng.AV.sc (Go.Eng.SV.int Go.IntKind.i64 n))), (Option.some (Go.Eng.AV.sc (Go.Eng.SV.int Go.IntKind.i64 n1)))] [(Option.some (Go.Eng.HE.mk Bool.true (Go.Eng.HB.rows (Go.Sa.B.iKeySlot l1))))] KL = l_slices_IndexFunc_KeySlot_Fimpl_VolumeFault_1_r_0 N b1 n l1 (fun n4 => KL Go.Eng.Ex.ret [(Option.some (Go.Eng.AV.sc (Go.Eng.SV.int Go.IntKind.i64 n4)))] [(Option.some (Go.Eng.HE.mk Bool.true (Go.Eng.HB.rows (Go.Sa.B.iKeySlot l1))))]) (KL Go.Eng.Ex.normal [Option.none] [(Option.some (Go.Eng.HE.mk Bool.true (Go.Eng.HB.rows (Go.Sa.B.iKeySlot l1))))]) f n1 := by
  intro f
  induction f with
  | zero => intros; rfl
  | succ f ih =>
    intro n1
    rw [iterK_succ, se_slices_IndexFunc_KeySlot_Fimpl_VolumeFault_1_r_0]
    exact (congrArg (fun z0 => s_slices_IndexFunc_KeySlot_Fimpl_VolumeFault_1_r_0 N b1 n l1 n1 z0 (fun n4 => KL Go.Eng.Ex.ret [(Option.some (Go.Eng.AV.sc (Go.Eng.SV.int Go.IntKind.i64 n4)))] [(Option.some (Go.Eng.HE.mk Bool.true (Go.Eng.HB.rows (Go.Sa.B.iKeySlot l1))))]) (KL Go.Eng.Ex.normal [Option.none] [(Option.some (Go.Eng.HE.mk Bool.true (Go.Eng.HB.rows (Go.Sa.B.iKeySlot l1))))])) (funext fun n1 => ih n1))
def i_slices_IndexFunc_KeySlot_Fimpl_VolumeFault_1_r_0 (N : Nat) {R : Type} (vs : List (Option AV)) (H : Hp E) (KL : Ex → List (Option AV) → Hp E → Option R) : Option R :=
  match vs, H with
  | [(Option.some (Go.Eng.AV.sc (Go.Eng.SV.slc 0 Option.none b1))), (Option.some (Go.Eng.AV.sc (Go.Eng.SV.fn 118 []))), (Option.some (Go.Eng.AV.sc (Go.Eng.SV.int Go.IntKind.i64 n))), (Option.some (Go.Eng.AV.sc (Go.Eng.SV.int Go.IntKind.i64 n1)))], [(Option.some (Go.Eng.HE.mk Bool.true (Go.Eng.HB.rows (Go.Sa.B.iKeySlot l1))))] => c_slices_IndexFunc_KeySlot_Fimpl_VolumeFault_1_r_0 N b1 n l1 n1 (fun n5 => KL Go.Eng.Ex.ret [(Option.some (Go.Eng.AV.sc (Go.Eng.SV.int Go.IntKind.i64 n5)))] [(Option.some (Go.Eng.HE.mk Bool.true (Go.Eng.HB.rows (Go.Sa.B.iKeySlot l1))))]) (KL Go.Eng.Ex.normal [Option.none] [(Option.some (Go.Eng.HE.mk Bool.true (Go.Eng.HB.rows (Go.Sa.B.iKeySlot l1))))])
  | _, _ => none
noncomputable def IT_slices_IndexFunc_KeySlot_Fimpl_VolumeFault_1_r_0 (N : Nat) : Its E := addIt 0 (i_slices_IndexFunc_KeySlot_Fimpl_VolumeFault_1_r_0 N) (noIt)
theorem IT_slices_IndexFunc_KeySlot_Fimpl_VolumeFault_1_r_0_ok (N : Nat) : ItOk (IT_slices_IndexFunc_KeySlot_Fimpl_VolumeFault_1_r_0 N) 1 19 sl_slices_IndexFunc_KeySlot_Fimpl_VolumeFault_1_r (lsB Go.Proofs.Try.f126 [0]) :=
  addItB_ok (inner := []) ok (O_slices_IndexFunc_KeySlot_Fimpl_VolumeFault_1_r_ok N) (jn_ok _ _ _) (noIt_ok) rfl (by kernel_rfl) rfl fun vs H KL r h => by
    unfold i_slices_IndexFunc_KeySlot_Fimpl_VolumeFault_1_r_0 at h
    split at h
    · exact ⟨_, (le_slices_IndexFunc_KeySlot_Fimpl_VolumeFault_1_r_0 N _ _ _ KL N _).trans h⟩
    · cases h
def g_slices_IndexFunc_KeySlot_Fimpl_VolumeFault_1_r (N : Nat) {R : Type} (b : Bool) (l : List Go.Sa.KeySlot) (k : Int → Option R) : Option R :=
  (c_slices_IndexFunc_KeySlot_Fimpl_VolumeFault_1_r_0 N b (((List.length l) : Nat) : Int) l (0 : Int) (fun n2 =>
  (k n2)) (
  (k (-(1 : Int)))))
theorem e_slices_IndexFunc_KeySlot_Fimpl_VolumeFault_1_r (N : Nat) {R : Type} (b : Bool) (l : List Go.Sa.KeySlot) (K : AV → Hp E → Option R) :
    runFnI (E := E) (O_slices_IndexFunc_KeySlot_Fimpl_VolumeFault_1_r N) (IT_slices_IndexFunc_KeySlot_Fimpl_VolumeFault_1_r_0 N) sl_slices_IndexFunc_KeySlot_Fimpl_VolumeFault_1_r J_slices_IndexFunc_KeySlot_Fimpl_VolumeFault_1_r Go.Proofs.Try.f126 [(Go.Eng.AV.sc (Go.Eng.SV.slc 0 Option.none b)), (Go.Eng.AV.sc (Go.Eng.SV.fn 118 []))] [(Option.some (Go.Eng.HE.mk Bool.true (Go.Eng.HB.rows (Go.Sa.B.iKeySlot l))))] K =
      g_slices_IndexFunc_KeySlot_Fimpl_VolumeFault_1_r N b l (fun n3 => K (Go.Eng.AV.sc (Go.Eng.SV.int Go.IntKind.i64 n3)) [(Option.some (Go.Eng.HE.mk Bool.true (Go.Eng.HB.rows (Go.Sa.B.iKeySlot l))))]) := by kernel_rfl
def o_slices_IndexFunc_KeySlot_Fimpl_VolumeFault_1_r (N : Nat) {R : Type} (args : List AV) (H : Hp E) (K : AV → Hp E → Option R) : Option R :=
  match args, H with
  | [(Go.Eng.AV.sc (Go.Eng.SV.slc 0 Option.none b)), (Go.Eng.AV.sc (Go.Eng.SV.fn 118 []))], [(Option.some (Go.Eng.HE.mk Bool.true (Go.Eng.HB.rows (Go.Sa.B.iKeySlot l))))] => g_slices_IndexFunc_KeySlot_Fimpl_VolumeFault_1_r N b l (fun n3 => K (Go.Eng.AV.sc (Go.Eng.SV.int Go.IntKind.i64 n3)) [(Option.some (Go.Eng.HE.mk Bool.true (Go.Eng.HB.rows (Go.Sa.B.iKeySlot l))))])
  | _, _ => none
theorem o_slices_IndexFunc_KeySlot_Fimpl_VolumeFault_1_r_ok (N : Nat) : FnOk E 126 (o_slices_IndexFunc_KeySlot_Fimpl_VolumeFault_1_r N) := by
  intro R args H K r h
  unfold o_slices_IndexFunc_KeySlot_Fimpl_VolumeFault_1_r at h
  dsimp only at h
  split at h
  · exact fnB_ok (ids := [0]) (top := [0]) ok (O_slices_IndexFunc_KeySlot_Fimpl_VolumeFault_1_r_ok N) (jn_ok _ _ _) Go.Proofs.Try.func126 (by kernel_rfl) (IT := IT_slices_IndexFunc_KeySlot_Fimpl_VolumeFault_1_r_0 N) (sl := sl_slices_IndexFunc_KeySlot_Fimpl_VolumeFault_1_r) (J := J_slices_IndexFunc_KeySlot_Fimpl_VolumeFault_1_r) (K := K) (H := [(Option.some (Go.Eng.HE.mk Bool.true (Go.Eng.HB.rows (Go.Sa.B.iKeySlot _))))]) (IT_slices_IndexFunc_KeySlot_Fimpl_VolumeFault_1_r_0_ok N) (by kernel_rfl) rfl ((e_slices_IndexFunc_KeySlot_Fimpl_VolumeFault_1_r N _ _ K).trans h)
  · cases h
/-! ### slices.ContainsFunc[[]loop.example/g00038/impl.KeySlot,loop.example/g00038/impl.KeySlot] -/
abbrev sl_slices_ContainsFunc_KeySlot_Fimpl_VolumeFault_1_r : SlotT := []
abbrev J_slices_ContainsFunc_KeySlot_Fimpl_VolumeFault_1_r : JT := jn [] [] []
noncomputable def O_slices_ContainsFunc_KeySlot_Fimpl_VolumeFault_1_r (N : Nat) : Orc E := addFn 126 (o_slices_IndexFunc_KeySlot_Fimpl_VolumeFault_1_r N) (noFn)
theorem O_slices_ContainsFunc_KeySlot_Fimpl_VolumeFault_1_r_ok (N : Nat) : OrcOk (O_slices_ContainsFunc_KeySlot_Fimpl_VolumeFault_1_r N) := addFn_ok (o_slices_IndexFunc_KeySlot_Fimpl_VolumeFault_1_r_ok N) (noFn_ok)
def g_slices_ContainsFunc_KeySlot_Fimpl_VolumeFault_1_r (N : Nat) {R : Type} (b : Bool) (l : List Go.Sa.KeySlot) (k : Bool → Option R) : Option R :=
  (g_slices_IndexFunc_KeySlot_Fimpl_VolumeFault_1_r N b l fun n =>
  (k (decide ((n ≥ (0 : Int))))))
theorem e_slices_ContainsFunc_KeySlot_Fimpl_VolumeFault_1_r (N : Nat) {R : Type} (b : Bool) (l : List Go.Sa.KeySlot) (K : AV → Hp E → Option R) :
    runFnI (E := E) (O_slices_ContainsFunc_KeySlot_Fimpl_VolumeFault_1_r N) (noIt) sl_slices_ContainsFunc_KeySlot_Fimpl_VolumeFault_1_r J_slices_ContainsFunc_KeySlot_Fimpl_VolumeFault_1_r Go.Proofs.Try.f117 [(Go.Eng.AV.sc (Go.Eng.SV.slc 0 Option.none b)), (Go.Eng.AV.sc (Go.Eng.SV.fn 118 []))] [(Option.some (Go.Eng.HE.mk Bool.true (Go.Eng.HB.rows (Go.Sa.B.iKeySlot l))))] K =
      g_slices_ContainsFunc_KeySlot_Fimpl_VolumeFault_1_r N b l (fun b1 => K (Go.Eng.AV.sc (Go.Eng.SV.bool b1)) [(Option.some (Go.Eng.HE.mk Bool.true (Go.Eng.HB.rows (Go.Sa.B.iKeySlot l))))]) := by kernel_rfl
def o_slices_ContainsFunc_KeySlot_Fimpl_VolumeFault_1_r (N : Nat) {R : Type} (args : List AV) (H : Hp E) (K : AV → Hp E → Option R) : Option R :=
  match args, H with
  | [(Go.Eng.AV.sc (Go.Eng.SV.slc 0 Option.none b)), (Go.Eng.AV.sc (Go.Eng.SV.fn 118 []))], [(Option.some (Go.Eng.HE.mk Bool.true (Go.Eng.HB.rows (Go.Sa.B.iKeySlot l))))] => g_slices_ContainsFunc_KeySlot_Fimpl_VolumeFault_1_r N b l (fun b1 => K (Go.Eng.AV.sc (Go.Eng.SV.bool b1)) [(Option.some (Go.Eng.HE.mk Bool.true (Go.Eng.HB.rows (Go.Sa.B.iKeySlot l))))])
  | _, _ => none
theorem o_slices_ContainsFunc_KeySlot_Fimpl_VolumeFault_1_r_ok (N : Nat) : FnOk E 117 (o_slices_ContainsFunc_KeySlot_Fimpl_VolumeFault_1_r N) := by
  intro R args H K r h
  unfold o_slices_ContainsFunc_KeySlot_Fimpl_VolumeFault_1_r at h
  dsimp only at h
  split at h
  · exact fnB_ok (ids := []) (top := []) ok (O_slices_ContainsFunc_KeySlot_Fimpl_VolumeFault_1_r_ok N) (jn_ok _ _ _) Go.Proofs.Try.func117 (by kernel_rfl) (IT := noIt) (sl := sl_slices_ContainsFunc_KeySlot_Fimpl_VolumeFault_1_r) (J := J_slices_ContainsFunc_KeySlot_Fimpl_VolumeFault_1_r) (K := K) (H := [(Option.some (Go.Eng.HE.mk Bool.true (Go.Eng.HB.rows (Go.Sa.B.iKeySlot _))))]) (noIt_ok) (by kernel_rfl) rfl ((e_slices_ContainsFunc_KeySlot_Fimpl_VolumeFault_1_r N _ _ K).trans h)
  · cases h
/-! ### loop.example/g00038/impl.VolumeFault -/
abbrev sl_impl_VolumeFault_r : SlotT := []
abbrev J_impl_VolumeFault_r : JT := jn [(1, [(18, .b)])] [] []
noncomputable def O_impl_VolumeFault_r (N : Nat) : Orc E := addFn 117 (o_slices_ContainsFunc_KeySlot_Fimpl_VolumeFault_1_r N) (addFn 77 (o_impl_yin N) (noFn))
theorem O_impl_VolumeFault_r_ok (N : Nat) : OrcOk (O_impl_VolumeFault_r N) := addFn_ok (o_slices_ContainsFunc_KeySlot_Fimpl_VolumeFault_1_r_ok N) (addFn_ok (o_impl_yin_ok N) (noFn_ok))
def g_impl_VolumeFault_r (N : Nat) {R : Type} (b : Bool) (s : ByteArray) (l : List Go.Sa.KeySlot) (k : Int → Option R) : Option R :=
  (oK (g_impl_yin N (((List.length l) : Nat) : Int) (1 : Int) (4 : Int) fun b1 =>
    (cond (!b1)
    (some Bool.true)
    (cond ((((ByteArray.size s) : Nat) : Int) != (8 : Int))
      (some Bool.true)
      (g_slices_ContainsFunc_KeySlot_Fimpl_VolumeFault_1_r N b l fun b2 =>
        (some b2))))) fun j =>
  (cond j
  (k (1 : Int))
  (k (0 : Int))))
theorem e_impl_VolumeFault_r (N : Nat) {R : Type} (b : Bool) (s : ByteArray) (l : List Go.Sa.KeySlot) (K : AV → Hp E → Option R) :
    runFnI (E := E) (O_impl_VolumeFault_r N) (noIt) sl_impl_VolumeFault_r J_impl_VolumeFault_r Go.Proofs.Try.f86 [(Go.Eng.AV.agg [(Go.Eng.SV.slc 0 Option.none b), (Go.Eng.SV.str s)])] [(Option.some (Go.Eng.HE.mk Bool.true (Go.Eng.HB.rows (Go.Sa.B.iKeySlot l))))] K =
      g_impl_VolumeFault_r N b s l (fun n => K (Go.Eng.AV.sc (Go.Eng.SV.int Go.IntKind.i64 n)) [(Option.some (Go.Eng.HE.mk Bool.true (Go.Eng.HB.rows (Go.Sa.B.iKeySlot l))))]) := by kernel_rfl
def o_impl_VolumeFault_r (N : Nat) {R : Type} (args : List AV) (H : Hp E) (K : AV → Hp E → Option R) : Option R :=
  match args, H with
  | [(Go.Eng.AV.agg [(Go.Eng.SV.slc 0 Option.none b), (Go.Eng.SV.str s)])], [(Option.some (Go.Eng.HE.mk Bool.true (Go.Eng.HB.rows (Go.Sa.B.iKeySlot l))))] => g_impl_VolumeFault_r N b s l (fun n => K (Go.Eng.AV.sc (Go.Eng.SV.int Go.IntKind.i64 n)) [(Option.some (Go.Eng.HE.mk Bool.true (Go.Eng.HB.rows (Go.Sa.B.iKeySlot l))))])
  | _, _ => none
theorem o_impl_VolumeFault_r_ok (N : Nat) : FnOk E 86 (o_impl_VolumeFault_r N) := by
  intro R args H K r h
  unfold o_impl_VolumeFault_r at h
  dsimp only at h
  split at h
  · exact fnB_ok (ids := []) (top := []) ok (O_impl_VolumeFault_r_ok N) (jn_ok _ _ _) Go.Proofs.Try.func86 (by kernel_rfl) (IT := noIt) (sl := sl_impl_VolumeFault_r) (J := J_impl_VolumeFault_r) (K := K) (H := [(Option.some (Go.Eng.HE.mk Bool.true (Go.Eng.HB.rows (Go.Sa.B.iKeySlot _))))]) (noIt_ok) (by kernel_rfl) rfl ((e_impl_VolumeFault_r N _ _ _ K).trans h)
  · cases h
end Go.Sa
