import Derived.Test.YtmmgjioemnhoaaaSpec
import Derived.Test.YtmmgjioemnhoaaaPLb
import Derived.Test.YtmmgjioemnhoaaaW2
set_option linter.all false
namespace Go.Sa
open Go Go.Eng Go.Proofs
set_option maxRecDepth 100000
/-! ### loop.example/g00038/impl.CheckQuote -/
abbrev sl_impl_CheckQuote_r : SlotT := []
abbrev J_impl_CheckQuote_r : JT := jn [(1, [(38, .b)])] [] []
noncomputable def O_impl_CheckQuote_r (N : Nat) : Orc E := addFn 72 (o_impl_yquoteE_r N) (addFn 71 (o_impl_ypower N) (addFn 77 (o_impl_yin N) (addFn 66 (o_impl_yregsOk_r N) (addFn 57 (o_impl_ylongKey_w N) (noFn)))))
theorem O_impl_CheckQuote_r_ok (N : Nat) : OrcOk (O_impl_CheckQuote_r N) := addFn_ok (o_impl_yquoteE_r_ok N) (addFn_ok (o_impl_ypower_ok N) (addFn_ok (o_impl_yin_ok N) (addFn_ok (o_impl_yregsOk_r_ok N) (addFn_ok (o_impl_ylongKey_w_ok N) (noFn_ok)))))
def g_impl_CheckQuote_r (N : Nat) {R : Type} (n : Int) (s : ByteArray) (b : Bool) (n1 : Int) (n2 : Int) (l : List Int) (k : Bool → Option R) : Option R :=
  (oK (g_impl_ylongKey_w N Bool.false [s] fun b1 =>
    (cond b1
    (some Bool.true)
    (g_impl_yregsOk_r N b l fun b2 =>
      (cond (!b2)
      (some Bool.true)
      (g_impl_yin N n (2 : Int) (2147482762 : Int) fun b3 =>
        (cond (!b3)
        (some Bool.true)
        (g_impl_ypower N n (1073741381 : Int) fun n3 =>
          (cond (n3 != (1 : Int))
          (some Bool.true)
          (g_impl_yin N n1 (1 : Int) (2147482762 : Int) fun b4 =>
            (cond (!b4)
            (some Bool.true)
            (g_impl_yin N n2 (0 : Int) (1073741380 : Int) fun b5 =>
              (some (!b5))))))))))))) fun j =>
  (cond j
  (k Bool.false)
  (g_impl_ypower N (4 : Int) n2 fun n4 =>
    (g_impl_yquoteE_r N n1 s b l fun n5 =>
    (g_impl_ypower N n n5 fun n6 =>
    (k (n4 == (Int.tmod (Go.IntKind.wrap Go.IntKind.i64 (n1 * n6)) (2147482763 : Int)))))))))
theorem e_impl_CheckQuote_r (N : Nat) {R : Type} (n : Int) (s : ByteArray) (b : Bool) (n1 : Int) (n2 : Int) (l : List Int) (K : AV → Hp E → Option R) :
    runFnI (E := E) (O_impl_CheckQuote_r N) (noIt) sl_impl_CheckQuote_r J_impl_CheckQuote_r Go.Proofs.Try.f27 [(Go.Eng.AV.sc (Go.Eng.SV.int Go.IntKind.i64 n)), (Go.Eng.AV.sc (Go.Eng.SV.str s)), (Go.Eng.AV.sc (Go.Eng.SV.slc 0 Option.none b)), (Go.Eng.AV.agg [(Go.Eng.SV.int Go.IntKind.i64 n1), (Go.Eng.SV.int Go.IntKind.i64 n2)])] [(Option.some (Go.Eng.HE.mk Bool.true (Go.Eng.HB.rows (Go.Sa.B.i64 l))))] K =
      g_impl_CheckQuote_r N n s b n1 n2 l (fun b6 => K (Go.Eng.AV.sc (Go.Eng.SV.bool b6)) [(Option.some (Go.Eng.HE.mk Bool.true (Go.Eng.HB.rows (Go.Sa.B.i64 l))))]) := by kernel_rfl
def o_impl_CheckQuote_r (N : Nat) {R : Type} (args : List AV) (H : Hp E) (K : AV → Hp E → Option R) : Option R :=
  match args, H with
  | [(Go.Eng.AV.sc (Go.Eng.SV.int Go.IntKind.i64 n)), (Go.Eng.AV.sc (Go.Eng.SV.str s)), (Go.Eng.AV.sc (Go.Eng.SV.slc 0 Option.none b)), (Go.Eng.AV.agg [(Go.Eng.SV.int Go.IntKind.i64 n1), (Go.Eng.SV.int Go.IntKind.i64 n2)])], [(Option.some (Go.Eng.HE.mk Bool.true (Go.Eng.HB.rows (Go.Sa.B.i64 l))))] => g_impl_CheckQuote_r N n s b n1 n2 l (fun b6 => K (Go.Eng.AV.sc (Go.Eng.SV.bool b6)) [(Option.some (Go.Eng.HE.mk Bool.true (Go.Eng.HB.rows (Go.Sa.B.i64 l))))])
  | _, _ => none
theorem o_impl_CheckQuote_r_ok (N : Nat) : FnOk E 27 (o_impl_CheckQuote_r N) := by
  intro R args H K r h
  unfold o_impl_CheckQuote_r at h
  dsimp only at h
  split at h
  · exact fnB_ok (ids := []) (top := []) ok (O_impl_CheckQuote_r_ok N) (jn_ok _ _ _) Go.Proofs.Try.func27 (by kernel_rfl) (IT := noIt) (sl := sl_impl_CheckQuote_r) (J := J_impl_CheckQuote_r) (K := K) (H := [(Option.some (Go.Eng.HE.mk Bool.true (Go.Eng.HB.rows (Go.Sa.B.i64 _))))]) (noIt_ok) (by kernel_rfl) rfl ((e_impl_CheckQuote_r N _ _ _ _ _ _ K).trans h)
  · cases h
/-! ### loop.example/g00038/spec.CheckQuote -/
abbrev sl_spec_CheckQuote_r : SlotT := []
abbrev J_spec_CheckQuote_r : JT := jn [(1, [(50, .b)])] [] []
noncomputable def O_spec_CheckQuote_r (N : Nat) : Orc E := addFn 74 (o_spec_Mix N) (addFn 75 (o_spec_l15All_r N) (addFn 76 (o_spec_l15Power N) (addFn 73 (o_spec_l15Regs_r N) (noFn))))
theorem O_spec_CheckQuote_r_ok (N : Nat) : OrcOk (O_spec_CheckQuote_r N) := addFn_ok (o_spec_Mix_ok N) (addFn_ok (o_spec_l15All_r_ok N) (addFn_ok (o_spec_l15Power_ok N) (addFn_ok (o_spec_l15Regs_r_ok N) (noFn_ok))))
def g_spec_CheckQuote_r (N : Nat) {R : Type} (n : Int) (s : ByteArray) (b : Bool) (n1 : Int) (n2 : Int) (l : List Int) (k : Bool → Option R) : Option R :=
  (oK (cond (decide (((((ByteArray.size s) : Nat) : Int) > (4096 : Int))))
    (some Bool.true)
    (g_spec_l15Regs_r N b l fun b1 =>
      (cond (!b1)
      (some Bool.true)
      (cond (decide ((n < (2 : Int))))
        (some Bool.true)
        (cond (decide ((n ≥ (2147482763 : Int))))
          (some Bool.true)
          (g_spec_l15Power N n (1073741381 : Int) fun n3 =>
            (cond (n3 != (1 : Int))
            (some Bool.true)
            (cond (decide ((n1 < (1 : Int))))
              (some Bool.true)
              (cond (decide ((n1 ≥ (2147482763 : Int))))
                (some Bool.true)
                (cond (decide ((n2 < (0 : Int))))
                  (some Bool.true)
                  (some (decide ((n2 ≥ (1073741381 : Int))))))))))))))) fun j =>
  (cond j
  (k Bool.false)
  (g_spec_l15All_r N n1 b s l fun s1 =>
    (g_spec_Mix N s1 (42 : Int) fun n4 =>
    (g_spec_l15Power N (4 : Int) n2 fun n5 =>
    (g_spec_l15Power N n (Int.tmod n4 (1073741381 : Int)) fun n6 =>
    (k (n5 == (Int.tmod (Go.IntKind.wrap Go.IntKind.i64 (n1 * n6)) (2147482763 : Int))))))))))
theorem e_spec_CheckQuote_r (N : Nat) {R : Type} (n : Int) (s : ByteArray) (b : Bool) (n1 : Int) (n2 : Int) (l : List Int) (K : AV → Hp E → Option R) :
    runFnI (E := E) (O_spec_CheckQuote_r N) (noIt) sl_spec_CheckQuote_r J_spec_CheckQuote_r Go.Proofs.Try.f28 [(Go.Eng.AV.sc (Go.Eng.SV.int Go.IntKind.i64 n)), (Go.Eng.AV.sc (Go.Eng.SV.str s)), (Go.Eng.AV.sc (Go.Eng.SV.slc 0 Option.none b)), (Go.Eng.AV.agg [(Go.Eng.SV.int Go.IntKind.i64 n1), (Go.Eng.SV.int Go.IntKind.i64 n2)])] [(Option.some (Go.Eng.HE.mk Bool.true (Go.Eng.HB.rows (Go.Sa.B.i64 l))))] K =
      g_spec_CheckQuote_r N n s b n1 n2 l (fun b2 => K (Go.Eng.AV.sc (Go.Eng.SV.bool b2)) [(Option.some (Go.Eng.HE.mk Bool.true (Go.Eng.HB.rows (Go.Sa.B.i64 l))))]) := by kernel_rfl
def o_spec_CheckQuote_r (N : Nat) {R : Type} (args : List AV) (H : Hp E) (K : AV → Hp E → Option R) : Option R :=
  match args, H with
  | [(Go.Eng.AV.sc (Go.Eng.SV.int Go.IntKind.i64 n)), (Go.Eng.AV.sc (Go.Eng.SV.str s)), (Go.Eng.AV.sc (Go.Eng.SV.slc 0 Option.none b)), (Go.Eng.AV.agg [(Go.Eng.SV.int Go.IntKind.i64 n1), (Go.Eng.SV.int Go.IntKind.i64 n2)])], [(Option.some (Go.Eng.HE.mk Bool.true (Go.Eng.HB.rows (Go.Sa.B.i64 l))))] => g_spec_CheckQuote_r N n s b n1 n2 l (fun b2 => K (Go.Eng.AV.sc (Go.Eng.SV.bool b2)) [(Option.some (Go.Eng.HE.mk Bool.true (Go.Eng.HB.rows (Go.Sa.B.i64 l))))])
  | _, _ => none
theorem o_spec_CheckQuote_r_ok (N : Nat) : FnOk E 28 (o_spec_CheckQuote_r N) := by
  intro R args H K r h
  unfold o_spec_CheckQuote_r at h
  dsimp only at h
  split at h
  · exact fnB_ok (ids := []) (top := []) ok (O_spec_CheckQuote_r_ok N) (jn_ok _ _ _) Go.Proofs.Try.func28 (by kernel_rfl) (IT := noIt) (sl := sl_spec_CheckQuote_r) (J := J_spec_CheckQuote_r) (K := K) (H := [(Option.some (Go.Eng.HE.mk Bool.true (Go.Eng.HB.rows (Go.Sa.B.i64 _))))]) (noIt_ok) (by kernel_rfl) rfl ((e_spec_CheckQuote_r N _ _ _ _ _ _ K).trans h)
  · cases h
end Go.Sa
