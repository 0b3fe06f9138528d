import Derived.Test.YtflmjaehnbnjnaaPL
set_option linter.all false
namespace Go.Eng
open Go Go.RowKit

section
variable {R : Type}

theorem ofInt_nat {n : Nat} (h : n < 2 ^ 64) : (BitVec.ofInt 64 (n : Int)).toNat = n := by
  rw [BitVec.toNat_ofInt]
  have : ((n : Int) % ((2 ^ 64 : Nat) : Int)) = ((n % 2 ^ 64 : Nat) : Int) := by rw [Int.natCast_emod]
  rw [this, Int.toNat_natCast, Nat.mod_eq_of_lt h]

theorem or_add {a b : Int} (j : Nat) (hb0 : 0 ≤ b) (hb : b < 2 ^ j) (ha0 : 0 ≤ a) (ha : a % 2 ^ j = 0) (hab : a + b < 9223372036854775808) :
    IntKind.wrap .i64 (((BitVec.ofInt 64 a ||| BitVec.ofInt 64 b).toNat : Nat) : Int) = a + b := by
  obtain ⟨A, rfl⟩ := Int.eq_ofNat_of_zero_le ha0
  obtain ⟨B, rfl⟩ := Int.eq_ofNat_of_zero_le hb0
  have h1 : A < 2 ^ 64 := by omega
  have h2 : B < 2 ^ 64 := by omega
  rw [BitVec.toNat_or, ofInt_nat h1, ofInt_nat h2]
  have hB : B < 2 ^ j := by
    have : ((2 : Int) ^ j) = ((2 ^ j : Nat) : Int) := by rw [Int.natCast_pow]; rfl
    rw [this] at hb
    exact Int.ofNat_lt.1 hb
  have hA : A % 2 ^ j = 0 := by
    have : ((2 : Int) ^ j) = ((2 ^ j : Nat) : Int) := by rw [Int.natCast_pow]; rfl
    rw [this, ← Int.natCast_emod] at ha
    exact Int.ofNat.inj ha
  have hq : A = 2 ^ j * (A / 2 ^ j) := by
    have := Nat.div_add_mod A (2 ^ j)
    omega
  have h3 := Nat.two_pow_add_eq_or_of_lt hB (A / 2 ^ j)
  rw [← hq] at h3
  rw [← h3, w64 (by omega) (by omega)]
  omega

theorem and_mask (n : Int) (j : Nat) (hj : j ≤ 62) : IntKind.wrap .i64 (((BitVec.ofInt 64 n &&& BitVec.ofInt 64 (2 ^ j - 1)).toNat : Nat) : Int) = n % 2 ^ j := by
  have hp : ((2 : Int) ^ j) = ((2 ^ j : Nat) : Int) := by rw [Int.natCast_pow]; rfl
  have hpos : 0 < 2 ^ j := Nat.two_pow_pos j
  have hle : 2 ^ j ≤ 2 ^ 62 := Nat.pow_le_pow_right (by omega) hj
  have hm : (2 : Int) ^ j - 1 = ((2 ^ j - 1 : Nat) : Int) := by rw [hp]; omega
  rw [hm, BitVec.toNat_and, ofInt_nat (by omega), Nat.and_two_pow_sub_one_eq_mod, BitVec.toNat_ofInt]
  have h1 : ((n % ((2 ^ 64 : Nat) : Int)).toNat : Int) = n % ((2 ^ 64 : Nat) : Int) := Int.toNat_of_nonneg (Int.emod_nonneg _ (by decide))
  have h2 : (((n % ((2 ^ 64 : Nat) : Int)).toNat % 2 ^ j : Nat) : Int) = n % 2 ^ j := by
    rw [Int.natCast_emod, h1, hp]
    refine Int.emod_emod_of_dvd n ?_
    exact Int.ofNat_dvd.2 (Nat.pow_dvd_pow 2 (by omega))
  rw [h2]
  have h3 := Int.emod_nonneg n (show (2 : Int) ^ j ≠ 0 by rw [hp]; omega)
  have h4 := Int.emod_lt_of_pos n (show 0 < (2 : Int) ^ j by rw [hp]; omega)
  have h5 : (2 : Int) ^ j ≤ 4611686018427387904 := by rw [hp]; omega
  exact w64 (by omega) (by omega)

theorem and255 (n : Int) : IntKind.wrap .i64 (((BitVec.ofInt 64 n &&& BitVec.ofInt 64 255).toNat : Nat) : Int) = n % 256 := and_mask n 8 (by omega)

theorem foldE {S : Type} (l : Nat → Int → S → Option R) (n : Nat) (bad : Nat → Bool) (g : Nat → S → S) (I : Nat → S → Prop) (k : S → Option R) (k0 : Option R)
    (h : ∀ f i s, i < n → I i s → l (f + 1) (i : Int) s = cond (bad i) k0 (l f ((i + 1 : Nat) : Int) (g i s)) ∧ (bad i = false → I (i + 1) (g i s)))
    (he : ∀ f s, I n s → l (f + 1) (n : Int) s = k s) {s : S} (hs : I 0 s) {f : Nat} (hf : n < f) :
    l f 0 s = cond ((List.range n).any bad) k0 (k ((List.range n).foldl (fun s i => g i s) s)) ∧ ((List.range n).any bad = false → I n ((List.range n).foldl (fun s i => g i s) s)) := by
  have key : ∀ d i f s, i + d = n → d < f → I i s → l f (i : Int) s = cond ((List.range' i d).any bad) k0 (k ((List.range' i d).foldl (fun s i => g i s) s)) ∧ ((List.range' i d).any bad = false → I n ((List.range' i d).foldl (fun s i => g i s) s)) := by
    intro d
    induction d with
    | zero =>
      intro i f s hi hf hs
      obtain ⟨f, rfl⟩ : ∃ j, f = j + 1 := ⟨f - 1, by omega⟩
      have : i = n := by omega
      subst this
      exact ⟨he f s hs, fun _ => hs⟩
    | succ d ih =>
      intro i f s hi hf hs
      obtain ⟨f, rfl⟩ : ∃ j, f = j + 1 := ⟨f - 1, by omega⟩
      obtain ⟨h1, h2⟩ := h f i s (by omega) hs
      rw [h1, List.range'_succ, List.foldl_cons, List.any_cons]
      cases hb : bad i with
      | true => exact ⟨rfl, fun e => by cases e⟩
      | false => exact ih (i + 1) f _ (by omega) (by omega) (h2 hb)
  have := key n 0 f s (by omega) hf hs
  rw [List.range_eq_range']
  exact this

theorem bt_bound (s : ByteArray) (i : Nat) : 0 ≤ bt s i ∧ bt s i ≤ 255 := by
  unfold bt
  have := (s.data.toList.getD i 0).toNat_lt
  omega
end
end Go.Eng
