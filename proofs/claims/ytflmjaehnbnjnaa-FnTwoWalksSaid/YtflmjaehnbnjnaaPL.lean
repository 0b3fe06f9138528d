import Derived.Test.YtflmjaehnbnjnaaEngZ
set_option linter.all false
namespace Go.Eng
open Go Go.RowKit

section
variable {R A B : Type}

@[simp] theorem oK_some_eq (a : A) (f : A → Option R) : oK (some a) f = f a := rfl
@[simp] theorem oK_none_eq (f : A → Option R) : oK (none : Option A) f = none := rfl
@[simp] theorem cond_somes (c : Bool) (a b : A) : cond c (some a) (some b) = some (cond c a b) := by cases c <;> rfl
theorem cond_same (c : Bool) (a : A) : cond c a a = a := by cases c <;> rfl
theorem cond_app (c : Bool) (f : A → B) (a b : A) : cond c (f a) (f b) = f (cond c a b) := by cases c <;> rfl

theorem bne_dec {α : Type} [DecidableEq α] (a b : α) : (a != b) = !decide (a = b) := rfl
theorem beq_dec {α : Type} [DecidableEq α] (a b : α) : (a == b) = decide (a = b) := rfl
theorem cond_not {α : Type} (c : Bool) (a b : α) : cond (!c) a b = cond c b a := by cases c <;> rfl

theorem w64 {n : Int} (h0 : -9223372036854775808 ≤ n) (h1 : n < 9223372036854775808) : IntKind.wrap .i64 n = n := wrap_i64 h0 h1
theorem wrap_prev {i : Nat} (h : 0 < i) (hn : i ≤ 2 ^ 62) : IntKind.wrap .i64 ((i : Int) - 1) = ((i - 1 : Nat) : Int) := by
  rw [wrap_i64 (by omega) (by omega)]; omega
theorem wrap_nat {i : Nat} (h : i ≤ 2 ^ 62) : IntKind.wrap .i64 (i : Int) = (i : Int) := wrap_i64 (by omega) (by omega)
theorem blt_t {i n : Nat} (h : i < n) : Nat.blt i n = true := blt_of h
theorem room {n b : Nat} (h : n * b ≤ 2 ^ 47) (h2 : n ≤ 2 ^ 47) : roomOk n b = true := by
  unfold roomOk
  rw [Nat.ble_eq_true_of_le h2, Nat.ble_eq_true_of_le h]; rfl
theorem dec_self {n : Int} : decide (n = n) = true := decide_eq_true rfl

theorem srch (l : Nat → Int → Option R) (n : Nat) (bad : Nat → Bool) (kR kN : Option R) (h : ∀ f i, i < n → l (f + 1) (i : Int) = cond (bad i) kR (l f ((i + 1 : Nat) : Int))) (he : ∀ f, l (f + 1) (n : Int) = kN)
    {f : Nat} (hf : n < f) : l f 0 = cond ((List.range n).any bad) kR kN := by
  have key : ∀ d i f, i + d = n → d < f → l f (i : Int) = cond ((List.range' i d).any bad) kR kN := by
    intro d
    induction d with
    | zero =>
      intro i f hi hf
      obtain ⟨f, rfl⟩ : ∃ j, f = j + 1 := ⟨f - 1, by omega⟩
      have : i = n := by omega
      subst this
      exact he f
    | succ d ih =>
      intro i f hi hf
      obtain ⟨f, rfl⟩ : ∃ j, f = j + 1 := ⟨f - 1, by omega⟩
      rw [h f i (by omega), List.range'_succ, List.any_cons]
      cases bad i with
      | true => rfl
      | false => exact ih (i + 1) f (by omega) (by omega)
  have := key n 0 f (by omega) hf
  rw [List.range_eq_range']
  exact this

theorem fold {S : Type} (l : Nat → Int → S → Option R) (n : Nat) (g : Nat → S → S) (I : Nat → S → Prop) (k : S → Option R) (h : ∀ f i s, i < n → I i s → l (f + 1) (i : Int) s = l f ((i + 1 : Nat) : Int) (g i s) ∧ I (i + 1) (g i s))
    (he : ∀ f s, I n s → l (f + 1) (n : Int) s = k s) {s : S} (hs : I 0 s) {f : Nat} (hf : n < f) : l f 0 s = k ((List.range n).foldl (fun s i => g i s) s) ∧ I n ((List.range n).foldl (fun s i => g i s) s) := by
  have key : ∀ d i f s, i + d = n → d < f → I i s → l f (i : Int) s = k ((List.range' i d).foldl (fun s i => g i s) s) ∧ I n ((List.range' i d).foldl (fun s i => g i s) s) := by
    intro d
    induction d with
    | zero =>
      intro i f s hi hf hs
      obtain ⟨f, rfl⟩ : ∃ j, f = j + 1 := ⟨f - 1, by omega⟩
      have : i = n := by omega
      subst this
      exact ⟨he f s hs, hs⟩
    | succ d ih =>
      intro i f s hi hf hs
      obtain ⟨f, rfl⟩ : ∃ j, f = j + 1 := ⟨f - 1, by omega⟩
      obtain ⟨h1, h2⟩ := h f i s (by omega) hs
      rw [h1, List.range'_succ, List.foldl_cons]
      exact ih (i + 1) f _ (by omega) (by omega) h2
  have := key n 0 f s (by omega) hf hs
  rw [List.range_eq_range']
  exact this

theorem copyl {S T : Type} (l : Nat → Int → List T → Option R) (xs : List S) (g : S → T) (k : List T → Option R) (h : ∀ f i ys x, i < xs.length → ys.length = xs.length → nth xs i = some x → l (f + 1) (i : Int) ys = l f ((i + 1 : Nat) : Int) (nset ys i (g x)))
    (he : ∀ f ys, ys.length = xs.length → l (f + 1) (xs.length : Int) ys = k ys) {ys : List T} (hy : ys.length = xs.length) {f : Nat} (hf : xs.length < f) : l f 0 ys = k (xs.map g) := by
  have key : ∀ d i f ys, i + d = xs.length → d < f → ys.length = xs.length → (∀ j, j < i → nth ys j = (nth xs j).map g) → l f (i : Int) ys = k (xs.map g) := by
    intro d
    induction d with
    | zero =>
      intro i f ys hi hf hl hj
      obtain ⟨f, rfl⟩ : ∃ j, f = j + 1 := ⟨f - 1, by omega⟩
      have hin : i = xs.length := by omega
      subst hin
      rw [he f ys hl]
      have : ys = xs.map g := ext_nth fun j => by
        rw [nth_map]
        rcases Nat.lt_or_ge j xs.length with hj' | hj'
        · exact hj j hj'
        · rw [nth_none (by omega), nth_none hj']; rfl
      rw [this]
    | succ d ih =>
      intro i f ys hi hf hl hj
      obtain ⟨f, rfl⟩ : ∃ j, f = j + 1 := ⟨f - 1, by omega⟩
      obtain ⟨x, hx⟩ := nth_some (l := xs) (n := i) (by omega)
      rw [h f i ys x (by omega) hl hx]
      refine ih (i + 1) f _ (by omega) (by omega) (by simpa using hl) fun j hj' => ?_
      rw [nth_nset]
      split
      · rename_i hc; obtain ⟨rfl, _⟩ := hc; rw [hx]; rfl
      · rename_i hc
        exact hj j (by have : j ≠ i := fun e => hc ⟨e, by omega⟩; omega)
  exact key xs.length 0 f ys (by omega) hf hy (fun j hj => by omega)

def diffAt {T : Type} [DecidableEq T] (xs ys : List T) (i : Nat) : Bool := match nth xs i, nth ys i with
  | some x, some y => !decide (x = y)
  | _, _ => true

theorem any_diffAt {T : Type} [DecidableEq T] (xs ys : List T) (h : xs.length = ys.length) : (List.range xs.length).any (diffAt xs ys) = !decide (xs = ys) := by
  have key : ∀ (xs ys zs ws : List T), xs.length = ys.length → zs.length = ws.length → (List.range' zs.length xs.length).any (diffAt (zs ++ xs) (ws ++ ys)) = !decide (xs = ys) := by
    intro xs
    induction xs with
    | nil => intro ys zs ws h _; cases ys <;> simp_all
    | cons x xs ih =>
      intro ys zs ws h hz
      cases ys with
      | nil => simp at h
      | cons y ys =>
        rw [List.length_cons, List.range'_succ, List.any_cons]
        have h1 : diffAt (zs ++ x :: xs) (ws ++ y :: ys) zs.length = !decide (x = y) := by
          unfold diffAt
          rw [nth_append, if_neg (by omega), nth_append, if_neg (by omega), hz, Nat.sub_self]
          rfl
        have h2 := ih ys (zs ++ [x]) (ws ++ [y]) (by simpa using h) (by simp [hz])
        simp only [List.append_assoc, List.singleton_append, List.length_append, List.length_singleton] at h2
        rw [h1, h2]
        by_cases e1 : x = y
        · subst e1
          by_cases e2 : xs = ys <;> simp [e2]
        · simp [e1]
  have := key xs ys [] [] h rfl
  rw [List.range_eq_range']
  simpa using this

theorem eql {T : Type} [DecidableEq T] (l : Nat → Int → Option R) (xs ys : List T) (hl : xs.length = ys.length) (kR kN : Option R) (h : ∀ f i x y, i < xs.length → nth xs i = some x → nth ys i = some y → l (f + 1) (i : Int) = cond (!decide (x = y)) kR (l f ((i + 1 : Nat) : Int)))
    (he : ∀ f, l (f + 1) (xs.length : Int) = kN) {f : Nat} (hf : xs.length < f) : l f 0 = cond (decide (xs = ys)) kN kR := by
  rw [srch l xs.length (diffAt xs ys) kR kN (fun f i hi => ?_) he hf, any_diffAt xs ys hl]
  · cases decide (xs = ys) <;> rfl
  · obtain ⟨x, hx⟩ := nth_some hi
    obtain ⟨y, hy⟩ := nth_some (l := ys) (n := i) (by omega)
    rw [h f i x y hi hx hy]
    unfold diffAt
    rw [hx, hy]

def atD {T : Type} {C : Type} (l : List T) (i : Nat) (f : T → C) (d : C) : C := match nth l i with
  | some x => f x
  | none => d

theorem atD_some {T C : Type} {l : List T} {i : Nat} {x : T} (h : nth l i = some x) (f : T → C) (d : C) : atD l i f d = f x := by unfold atD; rw [h]

theorem any_atD {T : Type} (l : List T) (p : T → Bool) (d : Bool) : (List.range l.length).any (fun i => atD l i p d) = l.any p := by
  have key : ∀ (l z : List T), (List.range' z.length l.length).any (fun i => atD (z ++ l) i p d) = l.any p := by
    intro l
    induction l with
    | nil => intro z; rfl
    | cons x l ih =>
      intro z
      rw [List.length_cons, List.range'_succ, List.any_cons, List.any_cons]
      have h1 : atD (z ++ x :: l) z.length p d = p x := atD_some (by rw [nth_append, if_neg (by omega), Nat.sub_self]; rfl) p d
      have h2 := ih (z ++ [x])
      simp only [List.append_assoc, List.singleton_append, List.length_append, List.length_singleton] at h2
      rw [h1, h2]
  rw [List.range_eq_range']
  exact key l []

theorem foldl_atD {T S : Type} (l : List T) (g : S → T → S) (s : S) : (List.range l.length).foldl (fun s i => atD l i (g s) s) s = l.foldl g s := by
  have key : ∀ (l z : List T) (s : S), (List.range' z.length l.length).foldl (fun s i => atD (z ++ l) i (g s) s) s = l.foldl g s := by
    intro l
    induction l with
    | nil => intro z s; rfl
    | cons x l ih =>
      intro z s
      rw [List.length_cons, List.range'_succ, List.foldl_cons, List.foldl_cons]
      have h1 : atD (z ++ x :: l) z.length (g s) s = g s x := atD_some (by rw [nth_append, if_neg (by omega), Nat.sub_self]; rfl) _ _
      have h2 := ih (z ++ [x]) (g s x)
      simp only [List.append_assoc, List.singleton_append, List.length_append, List.length_singleton] at h2
      rw [h1, h2]
  rw [List.range_eq_range']
  exact key l [] s

theorem srchI (l : Nat → Int → Option R) (n : Nat) (bad : Nat → Bool) (kR : Int → Option R) (kN : Option R) (h : ∀ f i, i < n → l (f + 1) (i : Int) = cond (bad i) (kR (i : Int)) (l f ((i + 1 : Nat) : Int))) (he : ∀ f, l (f + 1) (n : Int) = kN)
    {f : Nat} (hf : n < f) : l f 0 = match (List.range n).find? bad with | some i => kR (i : Int) | none => kN := by
  have key : ∀ d i f, i + d = n → d < f → l f (i : Int) = match (List.range' i d).find? bad with | some i => kR (i : Int) | none => kN := by
    intro d
    induction d with
    | zero =>
      intro i f hi hf
      obtain ⟨f, rfl⟩ : ∃ j, f = j + 1 := ⟨f - 1, by omega⟩
      have : i = n := by omega
      subst this
      exact he f
    | succ d ih =>
      intro i f hi hf
      obtain ⟨f, rfl⟩ : ∃ j, f = j + 1 := ⟨f - 1, by omega⟩
      rw [h f i (by omega), List.range'_succ, List.find?_cons]
      cases bad i with
      | true => rfl
      | false => exact ih (i + 1) f (by omega) (by omega)
  have := key n 0 f (by omega) hf
  rw [List.range_eq_range']
  exact this

def fstAt (n : Nat) (bad : Nat → Bool) : Int := match (List.range n).find? bad with
  | some i => (i : Int)
  | none => -1

theorem fstAt_nonneg (n : Nat) (bad : Nat → Bool) : decide (fstAt n bad ≥ 0) = (List.range n).any bad := by
  unfold fstAt
  cases h : (List.range n).find? bad with
  | some i =>
    have h1 := List.find?_some h
    have h2 := List.mem_of_find?_eq_some h
    rw [List.any_eq_true.2 ⟨i, h2, h1⟩]
    show decide ((i : Int) ≥ 0) = true
    exact decide_eq_true (by omega)
  | none =>
    have h1 := List.find?_eq_none.1 h
    have : (List.range n).any bad = false := by
      rw [Bool.eq_false_iff]
      intro e
      obtain ⟨x, hx, hb⟩ := List.any_eq_true.1 e
      exact h1 x hx hb
    rw [this]
    rfl

theorem wu64 {n : Int} (h0 : 0 ≤ n) (h1 : n < 18446744073709551616) : IntKind.wrap .u64 n = n := by
  unfold IntKind.wrap
  have hb : (2 : Int) ^ IntKind.u64.bits = 18446744073709551616 := by decide
  have hs : IntKind.u64.signed = false := rfl
  rw [hb, hs]
  simp only [Bool.false_and]
  rw [if_neg (by decide)]
  omega

def prevIs {T : Type} (p : T → T → Bool) (l : List T) (i : Nat) (x : T) : Bool := decide (0 < i) && (match nth l (i - 1) with | some y => p y x | none => true)

theorem nset_nset {T : Type} : ∀ (l : List T) (i : Nat) (x y : T), nset (nset l i x) i y = nset l i y
  | [], _, _, _ => rfl
  | _ :: _, 0, _, _ => rfl
  | _ :: l, i + 1, x, y => by simp only [nset, nset_nset l i x y]

theorem elemK_nset {T : Type} {l : List T} {i : Nat} {x : T} (h : i < l.length) (f : T → Option R) : elemK (nset l i x) i f = f x :=
  elemK_some (by rw [nth_nset, if_pos ⟨rfl, h⟩])

theorem toBytes_size (l : List Int) : (toBytes l).size = l.length := by
  show (toBytes l).data.size = l.length
  unfold toBytes
  simp

theorem seg_all {T : Type} (l : List T) : seg l 0 l.length = l := by simp [seg]

theorem wu8 (n : Int) : IntKind.wrap .u8 n = n % 256 := by
  unfold IntKind.wrap
  have hb : (2 : Int) ^ IntKind.u8.bits = 256 := by decide
  have hs : IntKind.u8.signed = false := rfl
  rw [hb, hs]
  simp only [Bool.false_and]
  rw [if_neg (by decide)]

theorem wu32 (n : Int) : IntKind.wrap .u32 n = n % 4294967296 := by
  unfold IntKind.wrap
  have hb : (2 : Int) ^ IntKind.u32.bits = 4294967296 := by decide
  have hs : IntKind.u32.signed = false := rfl
  rw [hb, hs]
  simp only [Bool.false_and]
  rw [if_neg (by decide)]

theorem fdiv_lit (n : Int) {m : Int} (h : 0 ≤ m) : Int.fdiv n m = n / m := Int.fdiv_eq_ediv_of_nonneg _ h

theorem ble_t {a b : Nat} (h : a ≤ b) : Nat.ble a b = true := Nat.ble_eq_true_of_le h

theorem tmod_add {n m : Int} (hm : 0 < m) : (if n.tmod m < 0 then n.tmod m + m else n.tmod m) = n % m := by
  have h1 := Int.emod_nonneg n (show m ≠ 0 by omega)
  have h2 := Int.emod_lt_of_pos n hm
  rw [Int.tmod_eq_emod]
  split
  · rename_i h
    rw [if_neg (by omega)]; omega
  · rename_i h
    have hm' : (m.natAbs : Int) = m := by omega
    rw [hm', if_pos (by omega)]; omega

theorem tmod_bound {n m : Int} (hm : 0 < m) : -m < n.tmod m ∧ n.tmod m < m := by
  have h1 := Int.emod_nonneg n (show m ≠ 0 by omega)
  have h2 := Int.emod_lt_of_pos n hm
  rw [Int.tmod_eq_emod]
  split
  · omega
  · rename_i h
    have hm' : (m.natAbs : Int) = m := by omega
    have h3 : n % m ≠ 0 := fun e => h (.inr (Int.dvd_of_emod_eq_zero e))
    rw [hm']; omega

def mtDig (n : Int) : ByteArray := toBytes [IntKind.wrap .u8 (IntKind.wrap .i64 (48 + Int.tmod n 10))]

def mtGo : Nat → Int → ByteArray → ByteArray
  | 0, _, s => s
  | f + 1, n, s => if 0 < n then mtGo f (n.tdiv 10) (mtDig n ++ s) else s

def mt (n : Int) : ByteArray := ⟨[(109 : UInt8)].toArray⟩ ++ mtGo 20 n ⟨[].toArray⟩

theorem mtGo_size : ∀ (f : Nat) (n : Int) (s : ByteArray), (mtGo f n s).size ≤ s.size + f
  | 0, _, s => Nat.le_refl _
  | f + 1, n, s => by
    unfold mtGo
    split
    · have := mtGo_size f (n.tdiv 10) (mtDig n ++ s)
      have h2 : (mtDig n ++ s).size = 1 + s.size := by rw [ByteArray.size_append]; rfl
      omega
    · omega
end
end Go.Eng
