import Derived.Test.YtmmgjioemnhoaaaSpec
import Derived.Test.YtmmgjioemnhoaaaPLb
import Derived.Test.YtmmgjioemnhoaaaW2
set_option linter.all false
namespace Go.Sa
open Go Go.Eng Go.Proofs
set_option maxRecDepth 100000
/-! ### loop.example/g00038/laws.FnCrypted -/
abbrev sl_laws_FnCrypted_r : SlotT := []
abbrev J_laws_FnCrypted_r : JT := jn [(5, [(33, .b)]), (7, [(61, .b)]), (11, [(2, .b)])] [] []
noncomputable def O_laws_FnCrypted_r (N : Nat) : Orc E := addFn 44 (o_spec_CryptDisk N) (addFn 43 (o_impl_CryptDisk N) (addFn 42 (o_spec_DrawCryptDisk_r N) (addFn 41 (o_spec_Crypt N) (addFn 40 (o_impl_Crypt N) (addFn 39 (o_spec_DrawCrypt_r N) (noFn))))))
theorem O_laws_FnCrypted_r_ok (N : Nat) : OrcOk (O_laws_FnCrypted_r N) := addFn_ok (o_spec_CryptDisk_ok N) (addFn_ok (o_impl_CryptDisk_ok N) (addFn_ok (o_spec_DrawCryptDisk_r_ok N) (addFn_ok (o_spec_Crypt_ok N) (addFn_ok (o_impl_Crypt_ok N) (addFn_ok (o_spec_DrawCrypt_r_ok N) (noFn_ok))))))
def g_laws_FnCrypted_r (N : Nat) {R : Type} (b : Bool) (l : List Int) (k : Bool → Option R) : Option R :=
  (cond (decide (((((List.length l) : Nat) : Int) > (1048576 : Int))))
  (k Bool.true)
  (g_spec_DrawCrypt_r N b l fun s n s1 =>
    (g_impl_Crypt N s n s1 fun s2 =>
    (oK (g_spec_Crypt N s n s1 fun s3 =>
      (cond (!(decide ((s2 = s3))))
      (some Bool.true)
      (some (decide (((((ByteArray.size s) : Nat) : Int) > (4096 : Int))))))) fun j =>
    (cond j
    (g_spec_Crypt N s n s1 fun s4 =>
      (k (decide ((s2 = s4)))))
    (oK (g_impl_Crypt N s n s2 fun s5 =>
        (cond (!(decide ((s5 = s1))))
        (some Bool.true)
        (cond ((decide (((0 : Int) ≤ (Go.IntKind.wrap Go.IntKind.i64 (Int.tdiv (((ByteArray.size s1) : Nat) : Int) (2 : Int)))))) && (decide (((Go.IntKind.wrap Go.IntKind.i64 (Int.tdiv (((ByteArray.size s1) : Nat) : Int) (2 : Int))) ≤ (((ByteArray.size s1) : Nat) : Int)))))
          (g_impl_Crypt N s n (ByteArray.extract s1 0 (Int.toNat (Go.IntKind.wrap Go.IntKind.i64 (Int.tdiv (((ByteArray.size s1) : Nat) : Int) (2 : Int))))) fun s6 =>
            (cond ((decide (((0 : Int) ≤ (Go.IntKind.wrap Go.IntKind.i64 (Int.tdiv (((ByteArray.size s1) : Nat) : Int) (2 : Int)))))) && (decide (((Go.IntKind.wrap Go.IntKind.i64 (Int.tdiv (((ByteArray.size s1) : Nat) : Int) (2 : Int))) ≤ (((ByteArray.size s2) : Nat) : Int)))))
            (some (!(decide ((s6 = (ByteArray.extract s2 0 (Int.toNat (Go.IntKind.wrap Go.IntKind.i64 (Int.tdiv (((ByteArray.size s1) : Nat) : Int) (2 : Int))))))))))
            none))
          none))) fun j1 =>
      (cond j1
      (k Bool.false)
      (g_spec_DrawCryptDisk_r N b l fun s7 s8 =>
        (g_impl_CryptDisk N s7 s8 fun s9 =>
        (oK (g_spec_CryptDisk N s7 s8 fun s10 =>
          (cond (decide ((s9 = s10)))
          (cond (decide ((s9 = (ByteArray.mk (List.toArray [])))))
            (some Bool.true)
            (g_impl_CryptDisk N s7 s9 fun s11 =>
              (some (decide ((s11 = s8))))))
          (some Bool.false))) fun j2 =>
        (k j2)))))))))))
theorem e_laws_FnCrypted_r (N : Nat) {R : Type} (b : Bool) (l : List Int) (K : AV → Hp E → Option R) :
    runFnI (E := E) (O_laws_FnCrypted_r N) (noIt) sl_laws_FnCrypted_r J_laws_FnCrypted_r Go.Proofs.Try.f8 [(Go.Eng.AV.sc (Go.Eng.SV.slc 0 Option.none b))] [(Option.some (Go.Eng.HE.mk Bool.true (Go.Eng.HB.rows (Go.Sa.B.u8 l))))] K =
      g_laws_FnCrypted_r N b l (fun b1 => K (Go.Eng.AV.sc (Go.Eng.SV.bool b1)) [(Option.some (Go.Eng.HE.mk Bool.true (Go.Eng.HB.rows (Go.Sa.B.u8 l))))]) := by kernel_rfl
def o_laws_FnCrypted_r (N : Nat) {R : Type} (args : List AV) (H : Hp E) (K : AV → Hp E → Option R) : Option R :=
  match args, H with
  | [(Go.Eng.AV.sc (Go.Eng.SV.slc 0 Option.none b))], [(Option.some (Go.Eng.HE.mk Bool.true (Go.Eng.HB.rows (Go.Sa.B.u8 l))))] => g_laws_FnCrypted_r N b l (fun b1 => K (Go.Eng.AV.sc (Go.Eng.SV.bool b1)) [(Option.some (Go.Eng.HE.mk Bool.true (Go.Eng.HB.rows (Go.Sa.B.u8 l))))])
  | _, _ => none
theorem o_laws_FnCrypted_r_ok (N : Nat) : FnOk E 8 (o_laws_FnCrypted_r N) := by
  intro R args H K r h
  unfold o_laws_FnCrypted_r at h
  dsimp only at h
  split at h
  · exact fnB_ok (ids := []) (top := []) ok (O_laws_FnCrypted_r_ok N) (jn_ok _ _ _) Go.Proofs.Try.func8 (by kernel_rfl) (IT := noIt) (sl := sl_laws_FnCrypted_r) (J := J_laws_FnCrypted_r) (K := K) (H := [(Option.some (Go.Eng.HE.mk Bool.true (Go.Eng.HB.rows (Go.Sa.B.u8 _))))]) (noIt_ok) (by kernel_rfl) rfl ((e_laws_FnCrypted_r N _ _ K).trans h)
  · cases h
end Go.Sa
