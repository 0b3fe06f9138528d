import Derived.Test.YtmmgjioemnhoaaaSpec
import Derived.Test.YtmmgjioemnhoaaaPLb
import Derived.Test.YtmmgjioemnhoaaaW3
set_option linter.all false
namespace Go.Sa
open Go Go.Eng Go.Proofs
set_option maxRecDepth 100000
/-! ### loop.example/g00038/laws.FnQuotes -/
abbrev sl_laws_FnQuotes_r : SlotT := []
abbrev J_laws_FnQuotes_r : JT := jn [(6, [(36, .b)]), (13, [(2, .b)])] [] []
noncomputable def O_laws_FnQuotes_r (N : Nat) : Orc E := addFn 28 (o_spec_CheckQuote_r N) (addFn 27 (o_impl_CheckQuote_r N) (addFn 26 (o_spec_PublicOf N) (addFn 25 (o_spec_QuoteOf_r N) (addFn 24 (o_impl_PublicOf N) (addFn 23 (o_impl_QuoteOf_w N) (addFn 22 (o_spec_DrawQuoteOf_r N) (noFn)))))))
theorem O_laws_FnQuotes_r_ok (N : Nat) : OrcOk (O_laws_FnQuotes_r N) := addFn_ok (o_spec_CheckQuote_r_ok N) (addFn_ok (o_impl_CheckQuote_r_ok N) (addFn_ok (o_spec_PublicOf_ok N) (addFn_ok (o_spec_QuoteOf_r_ok N) (addFn_ok (o_impl_PublicOf_ok N) (addFn_ok (o_impl_QuoteOf_w_ok N) (addFn_ok (o_spec_DrawQuoteOf_r_ok N) (noFn_ok)))))))
def g_laws_FnQuotes_r (N : Nat) {R : Type} (b : Bool) (l : List Int) (k : Bool → Option R) : Option R :=
  (cond (decide (((((List.length l) : Nat) : Int) > (1048576 : Int))))
  (k Bool.true)
  (g_spec_DrawQuoteOf_r N b l fun n s b1 l1 =>
    (g_impl_QuoteOf_w N n s b1 l1 fun n1 n2 l2 =>
    (g_impl_PublicOf N n fun n3 =>
    (oK (g_spec_QuoteOf_r N n s b1 l2 fun n4 n5 =>
      (cond (!((n1 == n4) && ((n2 == n5) && Bool.true)))
      (some Bool.true)
      (g_spec_PublicOf N n fun n6 =>
        (some (n3 != n6))))) fun j =>
    (cond j
    (k Bool.false)
    (cond ((n1 == (0 : Int)) && ((n2 == (0 : Int)) && Bool.true))
      (k Bool.true)
      (cond (Go.Eng.roomOk (0 + (List.length l2)) 8)
        (cond (decide (((0 : Int) < (((List.length ([] ++ l2)) : Nat) : Int))))
          (elemK ([] ++ l2) 0 fun x =>
            (cond (decide (((0 : Int) < (((List.length ([] ++ l2)) : Nat) : Int))))
            (elemK ([] ++ l2) 0 fun x1 =>
              (cond (Nat.blt 0 (List.length ([] ++ l2)))
              (oK (cond (decide ((n3 < (2 : Int))))
                  (g_impl_CheckQuote_r N n3 s b1 n1 (Int.tmod (Go.IntKind.wrap Go.IntKind.i64 (n2 + (1 : Int))) (1073741381 : Int)) l2 fun b2 =>
                    (cond (!b2)
                    (g_impl_CheckQuote_r N n3 s (cond (Nat.beq (List.length l2) 0) Bool.false Bool.false) n1 n2 (Go.Eng.nset ([] ++ l2) 0 (Int.tmod (Go.IntKind.wrap Go.IntKind.i64 (x + (1 : Int))) (4294967296 : Int))) fun b3 =>
                      (g_spec_CheckQuote_r N n3 s (cond (Nat.beq (List.length l2) 0) Bool.false Bool.false) n1 n2 (Go.Eng.nset ([] ++ l2) 0 (Int.tmod (Go.IntKind.wrap Go.IntKind.i64 (x + (1 : Int))) (4294967296 : Int))) fun b4 =>
                      (some (b3 == b4))))
                    (some Bool.false)))
                  (g_impl_CheckQuote_r N n3 s b1 n1 n2 l2 fun b5 =>
                    (cond b5
                    (g_impl_CheckQuote_r N n3 s b1 n1 (Int.tmod (Go.IntKind.wrap Go.IntKind.i64 (n2 + (1 : Int))) (1073741381 : Int)) l2 fun b6 =>
                      (cond (!b6)
                      (g_impl_CheckQuote_r N n3 s (cond (Nat.beq (List.length l2) 0) Bool.false Bool.false) n1 n2 (Go.Eng.nset ([] ++ l2) 0 (Int.tmod (Go.IntKind.wrap Go.IntKind.i64 (x + (1 : Int))) (4294967296 : Int))) fun b7 =>
                        (g_spec_CheckQuote_r N n3 s (cond (Nat.beq (List.length l2) 0) Bool.false Bool.false) n1 n2 (Go.Eng.nset ([] ++ l2) 0 (Int.tmod (Go.IntKind.wrap Go.IntKind.i64 (x + (1 : Int))) (4294967296 : Int))) fun b8 =>
                        (some (b7 == b8))))
                      (some Bool.false)))
                    (some Bool.false)))) fun j1 =>
                (k j1))
              none))
            none))
          none)
        none))))))))
theorem e_laws_FnQuotes_r (N : Nat) {R : Type} (b : Bool) (l : List Int) (K : AV → Hp E → Option R) :
    runFnI (E := E) (O_laws_FnQuotes_r N) (noIt) sl_laws_FnQuotes_r J_laws_FnQuotes_r Go.Proofs.Try.f5 [(Go.Eng.AV.sc (Go.Eng.SV.slc 0 Option.none b))] [(Option.some (Go.Eng.HE.mk Bool.true (Go.Eng.HB.rows (Go.Sa.B.u8 l))))] K =
      g_laws_FnQuotes_r N b l (fun b9 => K (Go.Eng.AV.sc (Go.Eng.SV.bool b9)) [(Option.some (Go.Eng.HE.mk Bool.true (Go.Eng.HB.rows (Go.Sa.B.u8 l))))]) := by kernel_rfl
def o_laws_FnQuotes_r (N : Nat) {R : Type} (args : List AV) (H : Hp E) (K : AV → Hp E → Option R) : Option R :=
  match args, H with
  | [(Go.Eng.AV.sc (Go.Eng.SV.slc 0 Option.none b))], [(Option.some (Go.Eng.HE.mk Bool.true (Go.Eng.HB.rows (Go.Sa.B.u8 l))))] => g_laws_FnQuotes_r N b l (fun b9 => K (Go.Eng.AV.sc (Go.Eng.SV.bool b9)) [(Option.some (Go.Eng.HE.mk Bool.true (Go.Eng.HB.rows (Go.Sa.B.u8 l))))])
  | _, _ => none
theorem o_laws_FnQuotes_r_ok (N : Nat) : FnOk E 5 (o_laws_FnQuotes_r N) := by
  intro R args H K r h
  unfold o_laws_FnQuotes_r at h
  dsimp only at h
  split at h
  · exact fnB_ok (ids := []) (top := []) ok (O_laws_FnQuotes_r_ok N) (jn_ok _ _ _) Go.Proofs.Try.func5 (by kernel_rfl) (IT := noIt) (sl := sl_laws_FnQuotes_r) (J := J_laws_FnQuotes_r) (K := K) (H := [(Option.some (Go.Eng.HE.mk Bool.true (Go.Eng.HB.rows (Go.Sa.B.u8 _))))]) (noIt_ok) (by kernel_rfl) rfl ((e_laws_FnQuotes_r N _ _ K).trans h)
  · cases h
end Go.Sa
