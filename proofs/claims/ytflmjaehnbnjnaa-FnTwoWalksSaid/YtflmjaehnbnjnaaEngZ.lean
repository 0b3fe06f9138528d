import Derived.Test.YtflmjaehnbnjnaaEngY
set_option linter.all false
namespace Go.Eng
open Go Go.RowKit

section
variable {R : Type}

theorem elemK_some {T : Type} {xs : List T} {n : Nat} {x : T} {K : T → Option R} (h : nth xs n = some x) : elemK xs n K = K x := by unfold elemK; rw [h]

theorem wrap_i64 {n : Int} (h0 : -9223372036854775808 ≤ n) (h1 : n < 9223372036854775808) : IntKind.i64.wrap n = n := by
  unfold IntKind.wrap
  have hb : (2 : Int) ^ IntKind.i64.bits = 18446744073709551616 := by decide
  have hc : (2 : Int) ^ (IntKind.i64.bits - 1) = 9223372036854775808 := by decide
  have hs : IntKind.i64.signed = true := rfl
  rw [hb, hc, hs]
  simp only [Bool.true_and, decide_eq_true_eq]
  split <;> omega

theorem wrap_next {i n : Nat} (h : i < n) (hn : n ≤ 2 ^ 62) : IntKind.i64.wrap ((i : Int) + 1) = ((i + 1 : Nat) : Int) := by
  rw [wrap_i64 (by omega) (by omega)]
  omega

def forGo {S A : Type} (f : Nat → S → Except A S) (fin : S → A) (n : Nat) : Nat → Nat → S → A
  | 0, _, s => fin s
  | d + 1, i, s => match f i s with
    | .ok s' => forGo f fin n d (i + 1) s'
    | .error a => a

def forAll {S A : Type} (n : Nat) (f : Nat → S → Except A S) (fin : S → A) (s : S) : A := forGo f fin n n 0 s

theorem for_loop {S A : Type} (n : Nat) (G : Nat → Nat → S → Option R) (f : Nat → S → Except A S) (fin : S → A) (out : A → Option R) (I : Nat → S → Prop)
    (h1 : ∀ k i s, i < n → I i s → G (k + 1) i s = match f i s with | .ok s' => G k (i + 1) s' | .error a => out a)
    (hI : ∀ i s s', i < n → I i s → f i s = .ok s' → I (i + 1) s') (h2 : ∀ k s, I n s → G (k + 1) n s = out (fin s)) :
    ∀ d k i s, i + d = n → d < k → I i s → G k i s = out (forGo f fin n d i s) := by
  intro d
  induction d with
  | zero =>
    intro k i s hi hk hs
    obtain ⟨k, rfl⟩ : ∃ j, k = j + 1 := ⟨k - 1, by omega⟩
    have : i = n := by omega
    subst this
    exact h2 k s hs
  | succ d ih =>
    intro k i s hi hk hs
    obtain ⟨k, rfl⟩ : ∃ j, k = j + 1 := ⟨k - 1, by omega⟩
    rw [h1 k i s (by omega) hs]
    unfold forGo
    cases hf : f i s with
    | ok s' => exact ih k (i + 1) s' (by omega) (by omega) (hI i s s' (by omega) hs hf)
    | error a => rfl

theorem for_search {S A : Type} (n : Nat) (bad : Nat → Bool) (s : S) (x y : A) : ∀ d i, i + d = n → forGo (fun i s => cond (bad i) (.error x) (.ok s)) (fun _ => y) n d i s = cond ((List.range' i d).any bad) x y := by
  intro d
  induction d with
  | zero => intro i _; rfl
  | succ d ih =>
    intro i hi
    unfold forGo
    rw [List.range'_succ, List.any_cons]
    cases bad i with
    | true => rfl
    | false => exact ih (i + 1) (by omega)

theorem for_copy {S T A : Type} (xs : List S) (g : S → T) (fin : List T → A) (f : Nat → List T → Except A (List T)) (hf : ∀ i ys x, nth xs i = some x → ys.length = xs.length → f i ys = .ok (nset ys i (g x))) :
    ∀ d i (ys : List T), i + d = xs.length → ys.length = xs.length → (∀ j, j < i → nth ys j = (nth xs j).map g) → forGo f fin xs.length d i ys = fin (xs.map g) := by
  intro d
  induction d with
  | zero =>
    intro i ys hi hl h
    have : ys = xs.map g := ext_nth fun j => by
      rw [nth_map]
      rcases Nat.lt_or_ge j xs.length with hj | hj
      · exact h j (by omega)
      · rw [nth_none (by omega), nth_none hj]; rfl
    rw [this]; rfl
  | succ d ih =>
    intro i ys hi hl h
    obtain ⟨x, hx⟩ := nth_some (l := xs) (n := i) (by omega)
    unfold forGo
    rw [hf i ys x hx hl]
    refine ih (i + 1) _ (by omega) (by simpa using hl) fun j hj => ?_
    rw [nth_nset]
    split
    · rename_i hc; obtain ⟨rfl, _⟩ := hc; rw [hx]; rfl
    · rename_i hc
      refine h j ?_
      have : j ≠ i := fun e => hc ⟨e, by omega⟩
      omega

theorem dec_lt {i n : Nat} (h : i < n) : decide ((i : Int) < (n : Int)) = true := decide_eq_true (by omega)
theorem dec_nlt (n : Nat) : decide ((n : Int) < (n : Int)) = false := decide_eq_false (by omega)
theorem dec_nn (i : Nat) : decide (0 ≤ (i : Int)) = true := decide_eq_true (by omega)
theorem blt_of {i n : Nat} (h : i < n) : Nat.blt i n = true := by simpa [Nat.blt_eq] using h
end
end Go.Eng
