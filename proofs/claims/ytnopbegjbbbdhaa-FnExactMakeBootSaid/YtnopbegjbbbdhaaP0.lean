import Derived.Test.YtnopbegjbbbdhaaW0
set_option linter.all false
namespace Go.Sa
open Go Go.Eng
section
variable {R : Type} (N : Nat)
variable {R : Type}

@[simp] theorem impl_yin_eq (a lo hi : Int) (k : Bool → Option R) : g_impl_yin N a lo hi k = k (decide (a ≥ lo) && decide (a ≤ hi)) := by
  simp [g_impl_yin]

@[simp] theorem impl_yisWord_eq (a : Int) (k : Bool → Option R) : g_impl_yisWord N a k = k (decide (a ≥ 0) && decide (a < 4294967296)) := by
  simp [g_impl_yisWord]

@[simp] theorem spec_l01IsWord_eq (a : Int) (k : Bool → Option R) : g_spec_l01IsWord N a k = k (decide (a ≥ 0) && decide (a < 4294967296)) := by
  simp [g_spec_l01IsWord]

def word (n : Int) : Int := n % 4294967296

def putWord (n : Int) : ByteArray := toBytes [word n % 256, word n / 256 % 256, word n / 65536 % 256, word n / 16777216 % 256]

theorem putWord_size (n : Int) : (putWord n).size = 4 := toBytes_size _

theorem impl_PutWord_eq (n : Int) (k : ByteArray → Option R) : g_impl_PutWord N n k = k (putWord n) := by
  simp only [g_impl_PutWord, wu8, wu32, fdiv_lit _ (show (0 : Int) ≤ 256 by omega), fdiv_lit _ (show (0 : Int) ≤ 65536 by omega), fdiv_lit _ (show (0 : Int) ≤ 16777216 by omega), seg_all]
  rfl

theorem spec_l01Mod_eq {n m : Int} (hm : 0 < m) (hm2 : m ≤ 2 ^ 62) (k : Int → Option R) : g_spec_l01Mod N n m k = k (n % m) := by
  unfold g_spec_l01Mod
  obtain ⟨h1, h2⟩ := tmod_bound (n := n) hm
  rw [show (m == 0) = false by rw [beq_dec]; exact decide_eq_false (by omega), ← tmod_add (n := n) hm]
  by_cases h : n.tmod m < 0
  · rw [decide_eq_true h, if_pos h, w64 (by omega) (by omega)]; rfl
  · rw [decide_eq_false h, if_neg h]; rfl

theorem impl_ymod_eq {n m : Int} (hm : 0 < m) (hm2 : m ≤ 2 ^ 62) (k : Int → Option R) : g_impl_ymod N n m k = k (n % m) := by
  unfold g_impl_ymod
  obtain ⟨h1, h2⟩ := tmod_bound (n := n) hm
  rw [show (m == 0) = false by rw [beq_dec]; exact decide_eq_false (by omega), ← tmod_add (n := n) hm]
  by_cases h : n.tmod m < 0
  · rw [decide_eq_true h, if_pos h, w64 (by omega) (by omega)]; rfl
  · rw [decide_eq_false h, if_neg h]; rfl

theorem spec_Word_eq (n : Int) (k : Int → Option R) : g_spec_Word N n k = k (word n) := by
  unfold g_spec_Word
  rw [spec_l01Mod_eq N (by omega) (by omega)]
  rfl

theorem spec_PutWord_eq (n : Int) (k : ByteArray → Option R) : g_spec_PutWord N n k = k (putWord n) := by
  simp only [g_spec_PutWord, spec_Word_eq, wu8, fdiv_lit _ (show (0 : Int) ≤ 256 by omega), fdiv_lit _ (show (0 : Int) ≤ 65536 by omega), fdiv_lit _ (show (0 : Int) ≤ 16777216 by omega), seg_all]
  rfl


/-- A fold over a list, each place going on with another state. -/
theorem foldL {T S : Type} (lp : Nat → Int → S → Option R) (l : List T) (g : S → T → S) (I : Nat → S → Prop) (k : S → Option R)
    (h : ∀ f i s x, i < l.length → nth l i = some x → I i s → lp (f + 1) (i : Int) s = lp f ((i + 1 : Nat) : Int) (g s x) ∧ I (i + 1) (g s x))
    (he : ∀ f s, I l.length s → lp (f + 1) (l.length : Int) s = k s) {s : S} (hs : I 0 s) {f : Nat} (hf : l.length < f) : lp f 0 s = k (l.foldl g s) ∧ I l.length (l.foldl g s) := by
  have := fold lp l.length (fun i s => atD l i (g s) s) I k (fun f i s hi hI => by
    obtain ⟨x, hx⟩ := nth_some hi
    rw [atD_some hx]
    exact h f i s x hi hx hI) he hs hf
  rw [foldl_atD] at this
  exact this

/-- Texts, one behind the other. -/
def catB : List ByteArray → ByteArray
  | [] => ⟨[].toArray⟩
  | x :: l => x ++ catB l

theorem ba_append_empty (x : ByteArray) : x ++ (⟨[].toArray⟩ : ByteArray) = x := by
  apply ByteArray.ext
  simp

theorem ba_empty_append (x : ByteArray) : (⟨[].toArray⟩ : ByteArray) ++ x = x := by
  apply ByteArray.ext
  simp

theorem join_flatten : ∀ xs : List (List UInt8), Lib.join xs [] = xs.flatten
  | [] => rfl
  | x :: r => by
    rw [Lib.join_cons, List.flatten_cons]
    unfold Lib.joinTail
    simp

theorem catB_toList : ∀ l : List ByteArray, (catB l).data.toList = (l.map (·.data.toList)).flatten
  | [] => rfl
  | x :: l => by
    simp only [catB, List.map_cons, List.flatten_cons, ← catB_toList l]
    simp

theorem joinB_cat (l : List ByteArray) : joinB l ⟨[].toArray⟩ = catB l := by
  unfold joinB
  apply ByteArray.ext
  apply Array.ext'
  show Lib.join (l.map (·.data.toList)) [] = _
  rw [join_flatten, catB_toList]

theorem joinOk_cat {l : List ByteArray} (h1 : l.length ≤ 2 ^ 40) (h2 : (catB l).size ≤ 2 ^ 40) : joinOk l ⟨[].toArray⟩ = true := by
  unfold joinOk
  have h3 : (Lib.join (l.map (·.data.toList)) (⟨[].toArray⟩ : ByteArray).data.toList).length = (catB l).size := by
    show (Lib.join (l.map (·.data.toList)) []).length = _
    rw [join_flatten, ← catB_toList]
    rfl
  rw [h3, ble_t (by omega), ble_t (by omega)]
  rfl

theorem catB_size : ∀ l : List ByteArray, (catB l).size = (l.map (·.size)).sum
  | [] => rfl
  | x :: l => by
    simp only [catB, ByteArray.size_append, List.map_cons, List.sum_cons, catB_size l]

theorem tmod_nn {n m : Int} (h : 0 ≤ n) : n.tmod m = n % m := Int.tmod_eq_emod_of_nonneg h

/-- A list's fold that appends to a text. -/
theorem foldl_append {T : Type} (f : T → ByteArray) : ∀ (l : List T) (s : ByteArray), l.foldl (fun s x => s ++ f x) s = s ++ catB (l.map f)
  | [], s => by simp only [List.foldl_nil, List.map_nil, catB, ba_append_empty]
  | x :: l, s => by
    rw [List.foldl_cons, foldl_append f l, List.map_cons]
    simp only [catB, ByteArray.append_assoc]

theorem spec_l20Words_eq {l : List Int} {b : Bool} (hl : l.length ≤ 2 ^ 30) (hN : 2 ^ 40 < N) (k : ByteArray → Option R) : g_spec_l20Words_w N b l k = k (catB (l.map putWord)) := by
  unfold g_spec_l20Words_w c_spec_l20Words_w_0
  obtain ⟨h1, _⟩ := foldL (fun f i s => l_spec_l20Words_w_0 N b l (fun s2 => k s2) f s i) l (fun s x => s ++ putWord x) (fun i s => s.size = 4 * i) (fun s => k s) (fun f i s x hi hx hs => by
      simp only [l_spec_l20Words_w_0, s_spec_l20Words_w_0, dec_lt hi, dec_nn, Int.toNat_natCast, elemK_some hx, spec_PutWord_eq, putWord_size, ble_t (show s.size + 4 ≤ 9223372036854775807 by omega), wrap_next hi (by omega), Bool.and_true, cond_true]
      exact ⟨trivial, by rw [ByteArray.size_append, putWord_size]; omega⟩) (fun f s _ => by
      simp only [l_spec_l20Words_w_0, s_spec_l20Words_w_0, dec_nlt, cond_false]) (s := ⟨[].toArray⟩) rfl (f := N) (by omega)
  refine h1.trans ?_
  rw [foldl_append, ba_empty_append]

def mixStep (x b : Int) : Int := (x * 65599 + b + 1) % 2147483629

def mixGo (s : ByteArray) (x : Int) : Int := (List.range s.size).foldl (fun x i => mixStep x (bt s i)) x

def mix (s : ByteArray) (n : Int) : Int := (mixGo s (n % 2147483629 + 1) * 40503 + 77) % 2147483629

theorem mix_round {x b : Int} (hx0 : 0 ≤ x) (hx1 : x ≤ 2147483629) (hb0 : 0 ≤ b) (hb1 : b ≤ 255) :
    Int.tmod (IntKind.wrap .i64 (IntKind.wrap .i64 (IntKind.wrap .i64 (x * 65599) + IntKind.wrap .i64 b) + 1)) 2147483629 = mixStep x b := by
  rw [w64 (n := x * 65599) (by omega) (by omega), w64 (n := b) (by omega) (by omega), w64 (n := x * 65599 + b) (by omega) (by omega), w64 (by omega) (by omega), tmod_nn (by omega)]
  rfl

theorem impl_ymix_eq {s : ByteArray} {n : Int} (hs : s.size ≤ 2 ^ 40) (hN : 2 ^ 40 < N) (k : Int → Option R) : g_impl_ymix N s n k = k (mix s n) := by
  unfold g_impl_ymix
  rw [impl_ymod_eq N (by omega) (by omega)]
  have hm : 0 ≤ n % 2147483629 ∧ n % 2147483629 < 2147483629 := by omega
  rw [w64 (n := n % 2147483629 + 1) (by omega) (by omega)]
  unfold c_impl_ymix_0
  obtain ⟨h1, h2, h3⟩ := fold (fun f i x => l_impl_ymix_0 N s s.size (fun n5 => k (Int.tmod (IntKind.wrap .i64 (IntKind.wrap .i64 (n5 * 40503) + 77)) 2147483629)) f x i) s.size (fun i x => mixStep x (bt s i)) (fun _ x => 0 ≤ x ∧ x ≤ 2147483629) (fun n5 => k (Int.tmod (IntKind.wrap .i64 (IntKind.wrap .i64 (n5 * 40503) + 77)) 2147483629)) (fun f i x hi hx => by
      obtain ⟨b1, b2⟩ := bt_bound s i
      simp only [l_impl_ymix_0, s_impl_ymix_0, dec_lt hi, dec_nn, Int.toNat_natCast, wrap_next hi (by omega), Bool.and_true, cond_true, mix_round hx.1 hx.2 b1 b2]
      exact ⟨trivial, by unfold mixStep; omega⟩) (fun f x hx => by
      simp only [l_impl_ymix_0, s_impl_ymix_0, dec_nlt, cond_false]) (s := n % 2147483629 + 1) ⟨by omega, by omega⟩ (f := N) (by omega)
  refine h1.trans ?_
  rw [w64 (n := _ * 40503) (by omega) (by omega), w64 (by omega) (by omega), tmod_nn (by omega)]
  rfl

theorem spec_Mix_eq {s : ByteArray} {n : Int} (hN : 2 ^ 40 < N) (k : Int → Option R) : g_spec_Mix N s n k = k (cond (decide ((s.size : Int) > 65536)) 0 (mix s n)) := by
  unfold g_spec_Mix
  by_cases hs : (s.size : Int) > 65536
  · rw [decide_eq_true hs]; rfl
  rw [decide_eq_false hs, cond_false, cond_false, spec_l01Mod_eq N (by omega) (by omega)]
  have hm : 0 ≤ n % 2147483629 ∧ n % 2147483629 < 2147483629 := by omega
  rw [w64 (n := n % 2147483629 + 1) (by omega) (by omega)]
  unfold c_spec_Mix_0
  obtain ⟨h1, h2, h3⟩ := fold (fun f i x => l_spec_Mix_0 N s (fun n5 => k (Int.tmod (IntKind.wrap .i64 (IntKind.wrap .i64 (n5 * 40503) + 77)) 2147483629)) f x i) s.size (fun i x => mixStep x (bt s i)) (fun _ x => 0 ≤ x ∧ x ≤ 2147483629) (fun n5 => k (Int.tmod (IntKind.wrap .i64 (IntKind.wrap .i64 (n5 * 40503) + 77)) 2147483629)) (fun f i x hi hx => by
      obtain ⟨b1, b2⟩ := bt_bound s i
      simp only [l_spec_Mix_0, s_spec_Mix_0, dec_lt hi, dec_nn, Int.toNat_natCast, wrap_next hi (by omega), Bool.and_true, cond_true, mix_round hx.1 hx.2 b1 b2]
      exact ⟨trivial, by unfold mixStep; omega⟩) (fun f x hx => by
      simp only [l_spec_Mix_0, s_spec_Mix_0, dec_nlt, cond_false]) (s := n % 2147483629 + 1) ⟨by omega, by omega⟩ (f := N) (by omega)
  refine h1.trans ?_
  rw [w64 (n := _ * 40503) (by omega) (by omega), w64 (by omega) (by omega), tmod_nn (by omega)]
  rfl

theorem ofBytes_length (s : ByteArray) : (ofBytes s).length = s.size := by
  unfold ofBytes
  rw [List.length_map, Array.length_toList]
  rfl

theorem toBytes_ofBytes (s : ByteArray) : toBytes (ofBytes s) = s := by
  obtain ⟨⟨l⟩⟩ := s
  unfold toBytes ofBytes
  simp only [List.map_map]
  have : (l.map ((fun x : Int => UInt8.ofNat x.toNat) ∘ fun c : UInt8 => (c.toNat : Int))) = l := by
    rw [List.map_congr_left (g := id) (fun c _ => by simp), List.map_id]
  rw [this]

theorem ofBytes_append (s t : ByteArray) : ofBytes (s ++ t) = ofBytes s ++ ofBytes t := by
  obtain ⟨⟨a⟩⟩ := s
  obtain ⟨⟨b⟩⟩ := t
  have e : (⟨⟨a⟩⟩ ++ ⟨⟨b⟩⟩ : ByteArray).data = (⟨a⟩ ++ ⟨b⟩ : Array UInt8) := ByteArray.data_append
  unfold ofBytes
  rw [e]
  simp

def regsText (l : List Int) : ByteArray := catB (l.map putWord)

theorem regsText_size (l : List Int) : (regsText l).size = 4 * l.length := by
  unfold regsText
  rw [catB_size, List.map_map]
  induction l with
  | nil => rfl
  | cons x l ih => simp only [List.map_cons, List.sum_cons, List.length_cons, ih, Function.comp, putWord_size]; omega

theorem impl_WriteString_eq {s : ByteArray} {b : Bool} {l : List Int} (h : l.length + s.size ≤ 2 ^ 40) (k : Int → Bool → List Int → Option R) : g_strings_Builder_WriteString_Ww_v1 N s b l k = k (s.size : Int) (cond (Nat.beq s.size 0) b false) (l ++ ofBytes s) := by
  unfold g_strings_Builder_WriteString_Ww_v1
  rw [ofBytes_length, room (by omega) (by omega), cond_true]

theorem impl_WriteString_eq0 {s : ByteArray} {b : Bool} {l : List Int} (h : l.length + s.size ≤ 2 ^ 40) (k : Int → Bool → List Int → Option R) : g_strings_Builder_WriteString_Ww N s b l k = k (s.size : Int) (cond (Nat.beq s.size 0) b false) (l ++ ofBytes s) := by
  unfold g_strings_Builder_WriteString_Ww
  rw [ofBytes_length, room (by omega) (by omega), cond_true]

theorem impl_yregsText_eq {l : List Int} {b : Bool} (hl : l.length ≤ 2 ^ 30) (hN : 2 ^ 40 < N) (k : ByteArray → List Int → Option R) : g_impl_yregsText_w N b l k = k (regsText l) l := by
  obtain ⟨M, rfl⟩ : ∃ M, N = M + 1 := ⟨N - 1, by omega⟩
  unfold g_impl_yregsText_w c_impl_yregsText_w_0b1
  cases l with
  | nil => rfl
  | cons x l =>
    have hi : (0 : Nat) < (x :: l).length := by simp
    obtain ⟨l0, hl0⟩ : ∃ l0, l0 = x :: l := ⟨_, rfl⟩
    have hx : nth l0 0 = some x := by rw [hl0]; rfl
    rw [← hl0] at hl hi ⊢
    have d1 : decide ((0 : Int) < (l0.length : Int)) = true := decide_eq_true (by omega)
    have d2 : IntKind.wrap .i64 ((0 : Int) + 1) = ((1 : Nat) : Int) := by rw [w64 (by omega) (by omega)]; rfl
    simp only [l_impl_yregsText_w_0b1, s_impl_yregsText_w_0b1, d1, d2, decide_true, Int.toNat_zero, Bool.and_self, elemK_some hx, Int.le_refl, cond_true, impl_PutWord_eq]
    rw [impl_WriteString_eq0 (M + 1) (by rw [putWord_size]; simp)]
    have hb0 : cond (Nat.beq (putWord x).size 0) true false = false := by rw [putWord_size]; rfl
    rw [hb0]
    let kN : List Int → Bool → List Int → Option R := fun l7 b7 l8 => cond b7 (k ⟨[].toArray⟩ l7) (cond (Nat.blt 0 l8.length && Nat.ble l8.length 9223372036854775807) (k (toBytes l8) l7) none)
    have key : ∀ d i f z, i + d = l0.length → d < f → z.length = 4 * i → 0 < i → l_impl_yregsText_w_0 (M + 1) b l0.length l0 kN f (i : Int) false z = k (toBytes (z ++ ofBytes (regsText (l0.drop i)))) l0 := by
      intro d
      induction d with
      | zero =>
        intro i f z hid hf hz hi0
        obtain ⟨f, rfl⟩ : ∃ j, f = j + 1 := ⟨f - 1, by omega⟩
        have : i = l0.length := by omega
        subst this
        simp only [l_impl_yregsText_w_0, s_impl_yregsText_w_0, dec_nlt, cond_false]
        show cond _ _ _ = _
        rw [cond_false, blt_t (by omega), ble_t (by omega), List.drop_of_length_le (Nat.le_refl _)]
        show k (toBytes z) l0 = k (toBytes (z ++ [])) l0
        rw [List.append_nil]
      | succ d ih =>
        intro i f z hid hf hz hi0
        obtain ⟨f, rfl⟩ : ∃ j, f = j + 1 := ⟨f - 1, by omega⟩
        have hil : i < l0.length := by omega
        obtain ⟨y, hy⟩ := nth_some hil
        simp only [l_impl_yregsText_w_0, s_impl_yregsText_w_0, dec_lt hil, dec_nn, Int.toNat_natCast, elemK_some hy, wrap_next hil (by omega), Bool.and_true, cond_true, impl_PutWord_eq]
        rw [impl_WriteString_eq (M + 1) (by rw [putWord_size]; omega), cond_same, ih (i + 1) f _ (by omega) (by omega) (by rw [List.length_append, ofBytes_length, putWord_size]; omega) (by omega)]
        have hdr : l0.drop i = y :: l0.drop (i + 1) := by
          rw [nth_eq] at hy
          obtain ⟨h1, h2⟩ := List.getElem?_eq_some_iff.1 hy
          rw [← h2]; exact List.drop_eq_getElem_cons h1
        rw [hdr, List.append_assoc, ← ofBytes_append]
        rfl
    have h1 := key (l0.length - 1) 1 M ([] ++ ofBytes (putWord x)) (by omega) (by omega) (by rw [List.length_append, ofBytes_length, putWord_size]; rfl) (by omega)
    refine h1.trans ?_
    have hdr : l0.drop 1 = l := by rw [hl0]; rfl
    rw [hdr, List.nil_append, ← ofBytes_append, toBytes_ofBytes, hl0]
    rfl

theorem impl_yjoinw_eq {l : List ByteArray} {b : Bool} (h1 : l.length ≤ 2 ^ 40) (h2 : (catB l).size ≤ 2 ^ 40) (k : ByteArray → Option R) : g_impl_yjoin_w N b l k = k (catB l) := by
  unfold g_impl_yjoin_w
  rw [joinOk_cat h1 h2, cond_true, joinB_cat]

def isW (x : Int) : Bool := decide (x ≥ 0) && decide (x < 4294967296)

theorem spec_l04Words_r_eq {l : List Int} {b : Bool} (hl : l.length ≤ 2 ^ 40) (hN : 2 ^ 40 < N) (k : Bool → Option R) : g_spec_l04Words_r N b (l.length : Int) l k = k (!(l.any fun x => !isW x)) := by
  unfold g_spec_l04Words_r
  rw [bne_self_eq_false, cond_false]
  unfold c_spec_l04Words_r_0
  rw [srch (l_spec_l04Words_r_0 N b l.length l (k false) (k true)) l.length (fun i => atD l i (fun x => !isW x) true) (k false) (k true) (fun f i hi => ?_) (fun f => ?_) (by omega), any_atD]
  · cases l.any (fun x => !isW x) <;> rfl
  · obtain ⟨x, hx⟩ := nth_some hi
    simp only [l_spec_l04Words_r_0, s_spec_l04Words_r_0, dec_lt hi, dec_nn, Int.toNat_natCast, elemK_some hx, wrap_next hi (by omega), Bool.and_true, cond_true, atD_some hx, spec_l01IsWord_eq]
    rfl
  · simp only [l_spec_l04Words_r_0, s_spec_l04Words_r_0, dec_nlt, cond_false]

theorem laws_toInt64S_r_eq {l : List Int} {b : Bool} (hl : l.length ≤ 2 ^ 40) (hN : 2 ^ 40 < N) (k : List Int → Option R) : g_laws_toInt64S_r N b l k = k l := by
  unfold g_laws_toInt64S_r
  rw [Int.toNat_natCast, room (by omega) (by omega), dec_self]
  unfold c_laws_toInt64S_r_0
  refine (copyl (l_laws_toInt64S_r_0 N b false l (fun l4 => k l4)) l (fun x => x) k (fun f i ys x hi hy hx => ?_) (fun f ys hy => ?_) (by simp) (by omega)).trans (by rw [List.map_id'])
  · obtain ⟨y, hy1⟩ := nth_some (l := ys) (n := i) (by omega)
    simp only [l_laws_toInt64S_r_0, s_laws_toInt64S_r_0, dec_lt hi, dec_nn, Int.toNat_natCast, elemK_some hx, elemK_some hy1, dec_lt (show i < ys.length by omega), blt_t (show i < ys.length by omega), wrap_next hi (by omega), Bool.and_true, cond_true]
  · simp only [l_laws_toInt64S_r_0, s_laws_toInt64S_r_0, dec_nlt, cond_false]

theorem laws_eqInt64S_ww_eq {l m : List Int} {b b1 : Bool} (hl : l.length ≤ 2 ^ 40) (hN : 2 ^ 40 < N) (k : Bool → Option R) : g_laws_eqInt64S_ww N b b1 l m k = k (decide (l = m)) := by
  unfold g_laws_eqInt64S_ww
  by_cases h : l.length = m.length
  · rw [show ((l.length : Int) != (m.length : Int)) = false by simp [h]]
    unfold c_laws_eqInt64S_ww_0
    refine (eql (l_laws_eqInt64S_ww_0 N b b1 l m (k false) (k true)) l m h (k false) (k true) (fun f i x y hi hx hy => ?_) (fun f => ?_) (by omega)).trans ?_
    · simp only [l_laws_eqInt64S_ww_0, s_laws_eqInt64S_ww_0, dec_lt hi, dec_nn, Int.toNat_natCast, elemK_some hx, elemK_some hy, dec_lt (show i < m.length by omega), wrap_next hi (by omega), Bool.and_true, cond_true, bne_dec]
    · simp only [l_laws_eqInt64S_ww_0, s_laws_eqInt64S_ww_0, dec_nlt, cond_false]
    · cases decide (l = m) <;> rfl
  · rw [show ((l.length : Int) != (m.length : Int)) = true by simp; omega]
    rw [decide_eq_false (fun e => h (by rw [e]))]
    rfl

theorem bt_append_left {s t : ByteArray} {i : Nat} (h : i < s.size) : bt (s ++ t) i = bt s i := by
  have h' : i < s.data.toList.length := by rw [Array.length_toList]; exact h
  unfold bt
  rw [ByteArray.data_append, Array.toList_append, List.getD_eq_getElem?_getD, List.getD_eq_getElem?_getD, List.getElem?_append_left h']

theorem bt_append_right {s t : ByteArray} (i : Nat) : bt (s ++ t) (s.size + i) = bt t i := by
  have h' : s.size = s.data.toList.length := by rw [Array.length_toList]; rfl
  unfold bt
  rw [ByteArray.data_append, Array.toList_append, List.getD_eq_getElem?_getD, List.getD_eq_getElem?_getD, List.getElem?_append_right (by omega), h', Nat.add_sub_cancel_left]

theorem bytes_ext {s t : ByteArray} (h : s.size = t.size) (hb : ∀ i, i < s.size → bt s i = bt t i) : s = t := by
  have hs : s.size = s.data.toList.length := by rw [Array.length_toList]; rfl
  have ht : t.size = t.data.toList.length := by rw [Array.length_toList]; rfl
  have : s.data.toList = t.data.toList := by
    apply List.ext_getElem (by omega)
    intro i h1 h2
    have := hb i (by omega)
    unfold bt at this
    rw [List.getD_eq_getElem?_getD, List.getD_eq_getElem?_getD, List.getElem?_eq_getElem h1, List.getElem?_eq_getElem h2] at this
    simp only [Option.getD_some] at this
    exact UInt8.toNat_inj.1 (by omega)
  apply ByteArray.ext
  exact Array.ext' this

def zeros (n : Nat) : ByteArray := toBytes (List.replicate n 0)

theorem zeros_size (n : Nat) : (zeros n).size = n := by unfold zeros; rw [toBytes_size, List.length_replicate]

theorem repeatL_zero : ∀ n : Nat, Lib.repeatL [(0 : UInt8)] n = List.replicate n 0
  | 0 => rfl
  | n + 1 => by
    have := repeatL_zero n
    rw [List.replicate_succ, ← this]; rfl

theorem repB_zero {n : Int} : repB ⟨[(0 : UInt8)].toArray⟩ n = zeros n.toNat := by
  unfold repB zeros toBytes
  have : (⟨[(0 : UInt8)].toArray⟩ : ByteArray).data.toList = [0] := rfl
  rw [this, repeatL_zero, List.map_replicate]
  rfl

theorem zeros_one : (⟨[(0 : UInt8)].toArray⟩ : ByteArray) = zeros 1 := rfl

theorem zeros_add (n m : Nat) : zeros n ++ zeros m = zeros (n + m) := by
  refine bytes_ext (by rw [ByteArray.size_append, zeros_size, zeros_size, zeros_size]) fun i hi => ?_
  have hb : ∀ n i, bt (zeros n) i = 0 := by
    intro n i
    unfold bt zeros toBytes
    simp only [List.map_replicate]
    rw [List.getD_eq_getElem?_getD, List.getElem?_replicate]
    split <;> rfl
  by_cases h : i < n
  · rw [bt_append_left (by rw [zeros_size]; omega), hb, hb]
  · obtain ⟨j, rfl⟩ : ∃ j, i = n + j := ⟨i - n, by omega⟩
    have := bt_append_right (s := zeros n) (t := zeros m) j
    rw [zeros_size] at this
    rw [this, hb, hb]

def padN (s : Nat) : Nat := (64 - s % 64) % 64

def whole (s : ByteArray) : ByteArray := s ++ zeros (padN s.size)

theorem impl_ywholeSectors_eq {s : ByteArray} (hs : s.size ≤ 2 ^ 40) (k : ByteArray → Option R) : g_impl_ywholeSectors N s k = k (whole s) := by
  unfold g_impl_ywholeSectors whole padN
  have e : Int.tmod (IntKind.wrap .i64 (64 - Int.tmod (s.size : Int) 64)) 64 = (((64 - s.size % 64) % 64 : Nat) : Int) := by
    rw [tmod_nn (show (0 : Int) ≤ (s.size : Int) by omega), w64 (by omega) (by omega), tmod_nn (by omega)]; omega
  have hr : repOk ⟨[(0 : UInt8)].toArray⟩ (((64 - s.size % 64) % 64 : Nat) : Int) = true := by
    unfold repOk
    rw [dec_nn, Int.toNat_natCast, ble_t (by omega), show (⟨[(0 : UInt8)].toArray⟩ : ByteArray).size = 1 from rfl, ble_t (by omega)]; rfl
  rw [e, hr, cond_true, repB_zero, Int.toNat_natCast, zeros_size, ble_t (by omega), cond_true]

theorem spec_pad_go {l : List Int} (kN : ByteArray → Option R) : ∀ (d f : Nat) (s : ByteArray), padN s.size = d → d < f → s.size ≤ 2 ^ 40 → l_spec_MakeBoot_w_0 N l kN f s = kN (s ++ zeros d) := by
  intro d
  induction d with
  | zero =>
    intro f s hd hf hs
    obtain ⟨f, rfl⟩ : ∃ j, f = j + 1 := ⟨f - 1, by omega⟩
    unfold padN at hd
    have : (Int.tmod (s.size : Int) 64 != 0) = false := by rw [tmod_nn (by omega)]; simp; omega
    simp only [l_spec_MakeBoot_w_0, s_spec_MakeBoot_w_0, this, cond_false]
    show kN s = kN (s ++ ⟨[].toArray⟩)
    rw [ba_append_empty]
  | succ d ih =>
    intro f s hd hf hs
    obtain ⟨f, rfl⟩ : ∃ j, f = j + 1 := ⟨f - 1, by omega⟩
    unfold padN at hd
    have : (Int.tmod (s.size : Int) 64 != 0) = true := by rw [tmod_nn (by omega)]; simp; omega
    have h1 : (s ++ zeros 1).size = s.size + 1 := by rw [ByteArray.size_append, zeros_size]
    simp only [l_spec_MakeBoot_w_0, s_spec_MakeBoot_w_0, this, cond_true, zeros_one]
    rw [ble_t (by omega), cond_true, ih f (s ++ zeros 1) (by rw [h1]; unfold padN; omega) (by omega) (by rw [h1]; omega), ByteArray.append_assoc, zeros_add, Nat.add_comm]

def bootWord : ByteArray := ⟨[(66 : UInt8), (79 : UInt8), (79 : UInt8), (84 : UInt8)].toArray⟩

def bootBad (n n1 : Int) (l : List Int) : Bool := (Int.tmod n 4 != 0) || (!(decide (n ≥ 0) && decide (n ≤ 65535)) || (!isW n1 || (decide (l.length = 0) || (decide (l.length > 1000) || l.any fun x => !isW x))))

def bootHead (n n1 : Int) (l : List Int) : ByteArray := bootWord ++ regsText [n, n1, (l.length : Int), mix (regsText l) 71]

def makeBoot (n n1 : Int) (l : List Int) : ByteArray := cond (bootBad n n1 l) ⟨[].toArray⟩ (whole (bootHead n n1 l) ++ whole (regsText l))

theorem bootHead_size (n n1 : Int) (l : List Int) : (bootHead n n1 l).size = 20 := by
  unfold bootHead
  rw [ByteArray.size_append, regsText_size]; rfl

theorem indexFunc_boot_eq {l : List Int} {b : Bool} (hl : l.length ≤ 2 ^ 40) (hN : 2 ^ 40 < N) (k : Int → Option R) : g_slices_IndexFunc_int64_Fimpl_MakeBoot_1_r N b l k = k (fstAt l.length (fun i => atD l i (fun x => !isW x) true)) := by
  unfold g_slices_IndexFunc_int64_Fimpl_MakeBoot_1_r c_slices_IndexFunc_int64_Fimpl_MakeBoot_1_r_0
  rw [srchI (l_slices_IndexFunc_int64_Fimpl_MakeBoot_1_r_0 N b l.length l (fun n3 => k n3) (k (-1))) l.length (fun i => atD l i (fun x => !isW x) true) (fun n3 => k n3) (k (-1)) (fun f i hi => ?_) (fun f => ?_) (by omega)]
  · unfold fstAt
    split <;> rfl
  · obtain ⟨x, hx⟩ := nth_some hi
    simp only [l_slices_IndexFunc_int64_Fimpl_MakeBoot_1_r_0, s_slices_IndexFunc_int64_Fimpl_MakeBoot_1_r_0, dec_lt hi, dec_nn, Int.toNat_natCast, elemK_some hx, wrap_next hi (by omega), Bool.and_true, cond_true, atD_some hx, g_impl_MakeBoot_1, impl_yisWord_eq]
    rfl
  · simp only [l_slices_IndexFunc_int64_Fimpl_MakeBoot_1_r_0, s_slices_IndexFunc_int64_Fimpl_MakeBoot_1_r_0, dec_nlt, cond_false]

theorem bootBad_facts {n n1 : Int} {l : List Int} (h : bootBad n n1 l = false) : l.length ≤ 1000 := by
  unfold bootBad at h
  simp only [Bool.or_eq_false_iff, decide_eq_false_iff_not] at h
  omega

theorem impl_MakeBoot_eq {n n1 : Int} {l : List Int} {b : Bool} (hl : l.length ≤ 2 ^ 30) (hN : 2 ^ 40 < N) (k : ByteArray → List Int → Option R) : g_impl_MakeBoot_w N b n n1 l k = k (makeBoot n n1 l) l := by
  unfold g_impl_MakeBoot_w g_slices_ContainsFunc_int64_Fimpl_MakeBoot_1_r makeBoot
  have a1 : (((l.length : Nat) : Int) == 0) = decide (l.length = 0) := by rw [beq_dec]; exact decide_eq_decide.2 (by omega)
  have a2 : decide ((l.length : Int) > 1000) = decide (l.length > 1000) := decide_eq_decide.2 (by omega)
  simp only [indexFunc_boot_eq N (show l.length ≤ 2 ^ 40 by omega) hN, fstAt_nonneg, any_atD, impl_yin_eq, impl_yisWord_eq, a1, a2, cond_somes, oK_some_eq, Bool.cond_true_left]
  change (cond (bootBad n n1 l) _ _) = _
  cases h : bootBad n n1 l with
  | true => rfl
  | false =>
    have hL := bootBad_facts h
    have hz := regsText_size l
    have hh := bootHead_size n n1 l
    simp only [cond_false]
    have hc : catB [bootWord, putWord n, putWord n1, putWord (l.length : Int), putWord (mix (regsText l) 71)] = bootHead n n1 l := by
      unfold bootHead regsText
      simp only [List.map_cons, List.map_nil, catB]
    rw [impl_yregsText_eq N (by omega) hN, impl_PutWord_eq, impl_PutWord_eq, impl_PutWord_eq, impl_ymix_eq N (by omega) hN, impl_PutWord_eq]
    change (g_impl_yjoin_w N false [bootWord, putWord n, putWord n1, putWord (l.length : Int), putWord (mix (regsText l) 71)] _) = _
    rw [impl_yjoinw_eq N (by simp) (by rw [hc, hh]; omega), hc, impl_ywholeSectors_eq N (by omega), impl_ywholeSectors_eq N (by omega), ble_t, cond_true]
    unfold whole padN
    rw [ByteArray.size_append, ByteArray.size_append, zeros_size, zeros_size]
    omega

theorem spec_MakeBoot_eq {n n1 : Int} {l : List Int} {b : Bool} (hl : l.length ≤ 2 ^ 30) (hN : 2 ^ 40 < N) (k : ByteArray → Option R) : g_spec_MakeBoot_w N b n n1 l k = k (makeBoot n n1 l) := by
  unfold g_spec_MakeBoot_w makeBoot
  have a1 : decide ((l.length : Int) < 1) = decide (l.length = 0) := decide_eq_decide.2 (by omega)
  have a2 : decide ((l.length : Int) > 1000) = decide (l.length > 1000) := decide_eq_decide.2 (by omega)
  have a3 : decide (n < 0) = !decide (n ≥ 0) := by rw [← decide_not]; exact decide_eq_decide.2 (by omega)
  have a4 : decide (n > 65535) = !decide (n ≤ 65535) := by rw [← decide_not]; exact decide_eq_decide.2 (by omega)
  simp only [spec_l04Words_r_eq N (show l.length ≤ 2 ^ 40 by omega) hN, spec_l01IsWord_eq, a1, a2, a3, a4, cond_somes, oK_some_eq, Bool.cond_true_left, Bool.not_not]
  have hb : (decide (l.length = 0) || (decide (l.length > 1000) || ((l.any fun x => !isW x) || (!decide (n ≥ 0) || (!decide (n ≤ 65535) || ((Int.tmod n 4 != 0) || !(decide (n1 ≥ 0) && decide (n1 < 4294967296)))))))) = bootBad n n1 l := by
    unfold bootBad
    change _ = ((Int.tmod n 4 != 0) || (!(decide (n ≥ 0) && decide (n ≤ 65535)) || (!(decide (n1 ≥ 0) && decide (n1 < 4294967296)) || _)))
    rw [Bool.not_and (decide (n ≥ 0))]
    cases decide (l.length = 0) <;> cases decide (l.length > 1000) <;> cases (l.any fun x => !isW x) <;> cases decide (n ≥ 0) <;> cases decide (n ≤ 65535) <;> cases (Int.tmod n 4 != 0) <;> cases !(decide (n1 ≥ 0) && decide (n1 < 4294967296)) <;> rfl
  rw [hb]
  cases h : bootBad n n1 l with
  | true => rfl
  | false =>
    have hL := bootBad_facts h
    have hz := regsText_size l
    have hh := bootHead_size n n1 l
    have hN' : 0 < N := by omega
    simp only [cond_false]
    rw [spec_l20Words_eq N hl hN]
    change (g_spec_Mix N (regsText l) 71 _) = _
    rw [spec_Mix_eq N hN, decide_eq_false (by omega), cond_false, spec_l20Words_eq N (by simp) hN]
    have hq : (catB ([n, n1, (l.length : Int), mix (regsText l) 71].map putWord)).size = 16 := by
      have := regsText_size [n, n1, (l.length : Int), mix (regsText l) 71]
      exact this
    have hw : (⟨[(66 : UInt8), (79 : UInt8), (79 : UInt8), (84 : UInt8)].toArray⟩ : ByteArray) ++ catB ([n, n1, (l.length : Int), mix (regsText l) 71].map putWord) = bootHead n n1 l := rfl
    rw [hw]
    have e : IntKind.wrap .i64 (64 - ((20 : Nat) : Int)) = ((44 : Nat) : Int) := by decide
    have e2 : toBytes (seg (List.replicate 44 (0 : Int)) 0 (List.replicate 44 (0 : Int)).length) = zeros 44 := by rw [seg_all]; rfl
    have z44 := zeros_size 44
    have hsz : (bootHead n n1 l ++ zeros 44 ++ catB (l.map putWord)).size = 64 + 4 * l.length := by
      rw [ByteArray.size_append, ByteArray.size_append, hh, z44]
      have : (catB (l.map putWord)).size = 4 * l.length := hz
      rw [this]
    rw [hq, hh, e, Int.toNat_natCast, e2]
    have hz' : (catB (l.map putWord)).size = 4 * l.length := hz
    rw [ByteArray.size_append (a := bootHead n n1 l), hh, z44, hz', ble_t (show 4 + 16 ≤ 9223372036854775807 by omega), decide_true, dec_nn, room (show 44 * 1 ≤ 2 ^ 47 by omega) (by omega), Nat.zero_add, ble_t (Nat.le_refl _), ble_t (show 20 + 44 ≤ 9223372036854775807 by omega), ble_t (show 20 + 44 + 4 * l.length ≤ 9223372036854775807 by omega)]
    simp only [Bool.and_self, cond_true]
    unfold c_spec_MakeBoot_w_0
    rw [spec_pad_go N (fun s3 => k s3) _ N _ rfl (by unfold padN; omega) (by rw [hsz]; omega), hsz]
    congr 1
    unfold whole
    rw [hh, show padN 20 = 44 from rfl, hz, show padN (64 + 4 * l.length) = padN (4 * l.length) by unfold padN; omega, ByteArray.append_assoc (a := bootHead n n1 l ++ zeros 44)]
    rfl

theorem law_MakeBoot {n n1 : Int} {l : List Int} {b : Bool} (hN : 2 ^ 40 < N) (k : Bool → Option R) : g_laws_FnExactMakeBoot_r N b n n1 l k = k true := by
  unfold g_laws_FnExactMakeBoot_r
  by_cases h : (l.length : Int) > 1048576
  · rw [decide_eq_true h]; rfl
  rw [decide_eq_false h, cond_false]
  simp only [laws_toInt64S_r_eq N (show l.length ≤ 2 ^ 40 by omega) hN, spec_MakeBoot_eq N (show l.length ≤ 2 ^ 30 by omega) hN, impl_MakeBoot_eq N (show l.length ≤ 2 ^ 30 by omega) hN, laws_eqInt64S_ww_eq N (show l.length ≤ 2 ^ 40 by omega) hN, decide_true, Bool.not_true, cond_false]

end
end Go.Sa
