import Derived.Test.YtmmgjioemnhoaaaW4
set_option linter.all false
namespace Go.Sa
open Go Go.Eng
section
variable {R : Type} (N : Nat)
variable {R : Type}

@[simp] theorem impl_yin_eq (a lo hi : Int) (k : Bool → Option R) : g_impl_yin N a lo hi k = k (decide (a ≥ lo) && decide (a ≤ hi)) := by
  simp [g_impl_yin]

@[simp] theorem impl_yisWord_eq (a : Int) (k : Bool → Option R) : g_impl_yisWord N a k = k (decide (a ≥ 0) && decide (a < 4294967296)) := by
  simp [g_impl_yisWord]

@[simp] theorem spec_l01IsWord_eq (a : Int) (k : Bool → Option R) : g_spec_l01IsWord N a k = k (decide (a ≥ 0) && decide (a < 4294967296)) := by
  simp [g_spec_l01IsWord]

def word (n : Int) : Int := n % 4294967296

def putWord (n : Int) : ByteArray := toBytes [word n % 256, word n / 256 % 256, word n / 65536 % 256, word n / 16777216 % 256]

theorem putWord_size (n : Int) : (putWord n).size = 4 := toBytes_size _

theorem impl_PutWord_eq (n : Int) (k : ByteArray → Option R) : g_impl_PutWord N n k = k (putWord n) := by
  simp only [g_impl_PutWord, Go.Eng.wu8, wu32, fdiv_lit _ (show (0 : Int) ≤ 256 by omega), fdiv_lit _ (show (0 : Int) ≤ 65536 by omega), fdiv_lit _ (show (0 : Int) ≤ 16777216 by omega), seg_all]
  rfl

theorem spec_l01Mod_eq {n m : Int} (hm : 0 < m) (hm2 : m ≤ 2 ^ 62) (k : Int → Option R) : g_spec_l01Mod N n m k = k (n % m) := by
  unfold g_spec_l01Mod
  obtain ⟨h1, h2⟩ := tmod_bound (n := n) hm
  rw [show (m == 0) = false by rw [beq_dec]; exact decide_eq_false (by omega), ← tmod_add (n := n) hm]
  by_cases h : n.tmod m < 0
  · rw [decide_eq_true h, if_pos h, w64 (by omega) (by omega)]; rfl
  · rw [decide_eq_false h, if_neg h]; rfl

theorem impl_ymod_eq {n m : Int} (hm : 0 < m) (hm2 : m ≤ 2 ^ 62) (k : Int → Option R) : g_impl_ymod N n m k = k (n % m) := by
  unfold g_impl_ymod
  obtain ⟨h1, h2⟩ := tmod_bound (n := n) hm
  rw [show (m == 0) = false by rw [beq_dec]; exact decide_eq_false (by omega), ← tmod_add (n := n) hm]
  by_cases h : n.tmod m < 0
  · rw [decide_eq_true h, if_pos h, w64 (by omega) (by omega)]; rfl
  · rw [decide_eq_false h, if_neg h]; rfl

theorem spec_Word_eq (n : Int) (k : Int → Option R) : g_spec_Word N n k = k (word n) := by
  unfold g_spec_Word
  rw [spec_l01Mod_eq N (by omega) (by omega)]
  rfl

theorem spec_PutWord_eq (n : Int) (k : ByteArray → Option R) : g_spec_PutWord N n k = k (putWord n) := by
  simp only [g_spec_PutWord, spec_Word_eq, Go.Eng.wu8, fdiv_lit _ (show (0 : Int) ≤ 256 by omega), fdiv_lit _ (show (0 : Int) ≤ 65536 by omega), fdiv_lit _ (show (0 : Int) ≤ 16777216 by omega), seg_all]
  rfl


/-- A fold over a list, each place going on with another state. -/
theorem foldL {T S : Type} (lp : Nat → Int → S → Option R) (l : List T) (g : S → T → S) (I : Nat → S → Prop) (k : S → Option R)
    (h : ∀ f i s x, i < l.length → nth l i = some x → I i s → lp (f + 1) (i : Int) s = lp f ((i + 1 : Nat) : Int) (g s x) ∧ I (i + 1) (g s x))
    (he : ∀ f s, I l.length s → lp (f + 1) (l.length : Int) s = k s) {s : S} (hs : I 0 s) {f : Nat} (hf : l.length < f) : lp f 0 s = k (l.foldl g s) ∧ I l.length (l.foldl g s) := by
  have := fold lp l.length (fun i s => atD l i (g s) s) I k (fun f i s hi hI => by
    obtain ⟨x, hx⟩ := nth_some hi
    rw [atD_some hx]
    exact h f i s x hi hx hI) he hs hf
  rw [foldl_atD] at this
  exact this

/-- Texts, one behind the other. -/
def catB : List ByteArray → ByteArray
  | [] => ⟨[].toArray⟩
  | x :: l => x ++ catB l

theorem ba_append_empty (x : ByteArray) : x ++ (⟨[].toArray⟩ : ByteArray) = x := by
  apply ByteArray.ext
  simp

theorem join_flatten : ∀ xs : List (List UInt8), Lib.join xs [] = xs.flatten
  | [] => rfl
  | x :: r => by
    rw [Lib.join_cons, List.flatten_cons]
    unfold Lib.joinTail
    simp

theorem catB_toList : ∀ l : List ByteArray, (catB l).data.toList = (l.map (·.data.toList)).flatten
  | [] => rfl
  | x :: l => by
    simp only [catB, List.map_cons, List.flatten_cons, ← catB_toList l]
    simp

theorem joinB_cat (l : List ByteArray) : joinB l ⟨[].toArray⟩ = catB l := by
  unfold joinB
  apply ByteArray.ext
  apply Array.ext'
  show Lib.join (l.map (·.data.toList)) [] = _
  rw [join_flatten, catB_toList]

theorem joinOk_cat {l : List ByteArray} (h1 : l.length ≤ 2 ^ 40) (h2 : (catB l).size ≤ 2 ^ 40) : joinOk l ⟨[].toArray⟩ = true := by
  unfold joinOk
  have h3 : (Lib.join (l.map (·.data.toList)) (⟨[].toArray⟩ : ByteArray).data.toList).length = (catB l).size := by
    show (Lib.join (l.map (·.data.toList)) []).length = _
    rw [join_flatten, ← catB_toList]
    rfl
  rw [h3, ble_t (by omega), ble_t (by omega)]
  rfl

theorem catB_size : ∀ l : List ByteArray, (catB l).size = (l.map (·.size)).sum
  | [] => rfl
  | x :: l => by
    simp only [catB, ByteArray.size_append, List.map_cons, List.sum_cons, catB_size l]

theorem tdiv_nn {n m : Int} (h : 0 ≤ n) : n.tdiv m = n / m := Int.tdiv_eq_ediv_of_nonneg h

theorem tmod_nn {n m : Int} (h : 0 ≤ n) : n.tmod m = n % m := Int.tmod_eq_emod_of_nonneg h

/-- A list's fold that appends to a text. -/
theorem foldl_append {T : Type} (f : T → ByteArray) : ∀ (l : List T) (s : ByteArray), l.foldl (fun s x => s ++ f x) s = s ++ catB (l.map f)
  | [], s => by simp only [List.foldl_nil, List.map_nil, catB, ba_append_empty]
  | x :: l, s => by
    rw [List.foldl_cons, foldl_append f l, List.map_cons]
    simp only [catB, ByteArray.append_assoc]

def mixStep (x b : Int) : Int := (x * 65599 + b + 1) % 2147483629

def mixGo (s : ByteArray) (x : Int) : Int := (List.range s.size).foldl (fun x i => mixStep x (bt s i)) x

def mix (s : ByteArray) (n : Int) : Int := (mixGo s (n % 2147483629 + 1) * 40503 + 77) % 2147483629

theorem mix_bound (s : ByteArray) (n : Int) : 0 ≤ mix s n ∧ mix s n < 2147483629 := by unfold mix; omega

theorem mix_round {x b : Int} (hx0 : 0 ≤ x) (hx1 : x ≤ 2147483629) (hb0 : 0 ≤ b) (hb1 : b ≤ 255) :
    Int.tmod (IntKind.wrap .i64 (IntKind.wrap .i64 (IntKind.wrap .i64 (x * 65599) + IntKind.wrap .i64 b) + 1)) 2147483629 = mixStep x b := by
  rw [w64 (n := x * 65599) (by omega) (by omega), w64 (n := b) (by omega) (by omega), w64 (n := x * 65599 + b) (by omega) (by omega), w64 (by omega) (by omega), tmod_nn (by omega)]
  rfl

theorem impl_ymix_eq {s : ByteArray} {n : Int} (hs : s.size ≤ 2 ^ 40) (hN : 2 ^ 40 < N) (k : Int → Option R) : g_impl_ymix N s n k = k (mix s n) := by
  unfold g_impl_ymix
  rw [impl_ymod_eq N (by omega) (by omega)]
  have hm : 0 ≤ n % 2147483629 ∧ n % 2147483629 < 2147483629 := by omega
  rw [w64 (n := n % 2147483629 + 1) (by omega) (by omega)]
  unfold c_impl_ymix_0
  obtain ⟨h1, h2, h3⟩ := fold (fun f i x => l_impl_ymix_0 N s s.size (fun n5 => k (Int.tmod (IntKind.wrap .i64 (IntKind.wrap .i64 (n5 * 40503) + 77)) 2147483629)) f x i) s.size (fun i x => mixStep x (bt s i)) (fun _ x => 0 ≤ x ∧ x ≤ 2147483629) (fun n5 => k (Int.tmod (IntKind.wrap .i64 (IntKind.wrap .i64 (n5 * 40503) + 77)) 2147483629)) (fun f i x hi hx => by
      obtain ⟨b1, b2⟩ := bt_bound s i
      simp only [l_impl_ymix_0, s_impl_ymix_0, dec_lt hi, dec_nn, Int.toNat_natCast, wrap_next hi (by omega), Bool.and_true, cond_true, mix_round hx.1 hx.2 b1 b2]
      exact ⟨trivial, by unfold mixStep; omega⟩) (fun f x hx => by
      simp only [l_impl_ymix_0, s_impl_ymix_0, dec_nlt, cond_false]) (s := n % 2147483629 + 1) ⟨by omega, by omega⟩ (f := N) (by omega)
  refine h1.trans ?_
  rw [w64 (n := _ * 40503) (by omega) (by omega), w64 (by omega) (by omega), tmod_nn (by omega)]
  rfl

theorem spec_Mix_eq {s : ByteArray} {n : Int} (hN : 2 ^ 40 < N) (k : Int → Option R) : g_spec_Mix N s n k = k (cond (decide ((s.size : Int) > 65536)) 0 (mix s n)) := by
  unfold g_spec_Mix
  by_cases hs : (s.size : Int) > 65536
  · rw [decide_eq_true hs]; rfl
  rw [decide_eq_false hs, cond_false, cond_false, spec_l01Mod_eq N (by omega) (by omega)]
  have hm : 0 ≤ n % 2147483629 ∧ n % 2147483629 < 2147483629 := by omega
  rw [w64 (n := n % 2147483629 + 1) (by omega) (by omega)]
  unfold c_spec_Mix_0
  obtain ⟨h1, h2, h3⟩ := fold (fun f i x => l_spec_Mix_0 N s (fun n5 => k (Int.tmod (IntKind.wrap .i64 (IntKind.wrap .i64 (n5 * 40503) + 77)) 2147483629)) f x i) s.size (fun i x => mixStep x (bt s i)) (fun _ x => 0 ≤ x ∧ x ≤ 2147483629) (fun n5 => k (Int.tmod (IntKind.wrap .i64 (IntKind.wrap .i64 (n5 * 40503) + 77)) 2147483629)) (fun f i x hi hx => by
      obtain ⟨b1, b2⟩ := bt_bound s i
      simp only [l_spec_Mix_0, s_spec_Mix_0, dec_lt hi, dec_nn, Int.toNat_natCast, wrap_next hi (by omega), Bool.and_true, cond_true, mix_round hx.1 hx.2 b1 b2]
      exact ⟨trivial, by unfold mixStep; omega⟩) (fun f x hx => by
      simp only [l_spec_Mix_0, s_spec_Mix_0, dec_nlt, cond_false]) (s := n % 2147483629 + 1) ⟨by omega, by omega⟩ (f := N) (by omega)
  refine h1.trans ?_
  rw [w64 (n := _ * 40503) (by omega) (by omega), w64 (by omega) (by omega), tmod_nn (by omega)]
  rfl

theorem ofBytes_length (s : ByteArray) : (ofBytes s).length = s.size := by
  unfold ofBytes
  rw [List.length_map, Array.length_toList]
  rfl

theorem toBytes_ofBytes (s : ByteArray) : toBytes (ofBytes s) = s := by
  obtain ⟨⟨l⟩⟩ := s
  unfold toBytes ofBytes
  simp only [List.map_map]
  have : (l.map ((fun x : Int => UInt8.ofNat x.toNat) ∘ fun c : UInt8 => (c.toNat : Int))) = l := by
    rw [List.map_congr_left (g := id) (fun c _ => by simp), List.map_id]
  rw [this]

theorem ofBytes_append (s t : ByteArray) : ofBytes (s ++ t) = ofBytes s ++ ofBytes t := by
  obtain ⟨⟨a⟩⟩ := s
  obtain ⟨⟨b⟩⟩ := t
  have e : (⟨⟨a⟩⟩ ++ ⟨⟨b⟩⟩ : ByteArray).data = (⟨a⟩ ++ ⟨b⟩ : Array UInt8) := ByteArray.data_append
  unfold ofBytes
  rw [e]
  simp

def regsText (l : List Int) : ByteArray := catB (l.map putWord)

theorem regsText_size (l : List Int) : (regsText l).size = 4 * l.length := by
  unfold regsText
  rw [catB_size, List.map_map]
  induction l with
  | nil => rfl
  | cons x l ih => simp only [List.map_cons, List.sum_cons, List.length_cons, ih, Function.comp, putWord_size]; omega

theorem impl_WriteString_eq {s : ByteArray} {b : Bool} {l : List Int} (h : l.length + s.size ≤ 2 ^ 40) (k : Int → Bool → List Int → Option R) : g_strings_Builder_WriteString_Ww_v1 N s b l k = k (s.size : Int) (cond (Nat.beq s.size 0) b false) (l ++ ofBytes s) := by
  unfold g_strings_Builder_WriteString_Ww_v1
  rw [ofBytes_length, room (by omega) (by omega), cond_true]

theorem impl_WriteString_eq0 {s : ByteArray} {b : Bool} {l : List Int} (h : l.length + s.size ≤ 2 ^ 40) (k : Int → Bool → List Int → Option R) : g_strings_Builder_WriteString_Ww N s b l k = k (s.size : Int) (cond (Nat.beq s.size 0) b false) (l ++ ofBytes s) := by
  unfold g_strings_Builder_WriteString_Ww
  rw [ofBytes_length, room (by omega) (by omega), cond_true]

theorem impl_yregsText_eq {l : List Int} {b : Bool} (hl : l.length ≤ 2 ^ 30) (hN : 2 ^ 40 < N) (k : ByteArray → List Int → Option R) : g_impl_yregsText_w N b l k = k (regsText l) l := by
  obtain ⟨M, rfl⟩ : ∃ M, N = M + 1 := ⟨N - 1, by omega⟩
  unfold g_impl_yregsText_w c_impl_yregsText_w_0b1
  cases l with
  | nil => rfl
  | cons x l =>
    have hi : (0 : Nat) < (x :: l).length := by simp
    obtain ⟨l0, hl0⟩ : ∃ l0, l0 = x :: l := ⟨_, rfl⟩
    have hx : nth l0 0 = some x := by rw [hl0]; rfl
    rw [← hl0] at hl hi ⊢
    have d1 : decide ((0 : Int) < (l0.length : Int)) = true := decide_eq_true (by omega)
    have d2 : IntKind.wrap .i64 ((0 : Int) + 1) = ((1 : Nat) : Int) := by rw [w64 (by omega) (by omega)]; rfl
    simp only [l_impl_yregsText_w_0b1, s_impl_yregsText_w_0b1, d1, d2, decide_true, Int.toNat_zero, Bool.and_self, elemK_some hx, Int.le_refl, cond_true, impl_PutWord_eq]
    rw [impl_WriteString_eq0 (M + 1) (by rw [putWord_size]; simp)]
    have hb0 : cond (Nat.beq (putWord x).size 0) true false = false := by rw [putWord_size]; rfl
    rw [hb0]
    let kN : List Int → Bool → List Int → Option R := fun l7 b7 l8 => cond b7 (k ⟨[].toArray⟩ l7) (cond (Nat.blt 0 l8.length && Nat.ble l8.length 9223372036854775807) (k (toBytes l8) l7) none)
    have key : ∀ d i f z, i + d = l0.length → d < f → z.length = 4 * i → 0 < i → l_impl_yregsText_w_0 (M + 1) b l0.length l0 kN f (i : Int) false z = k (toBytes (z ++ ofBytes (regsText (l0.drop i)))) l0 := by
      intro d
      induction d with
      | zero =>
        intro i f z hid hf hz hi0
        obtain ⟨f, rfl⟩ : ∃ j, f = j + 1 := ⟨f - 1, by omega⟩
        have : i = l0.length := by omega
        subst this
        simp only [l_impl_yregsText_w_0, s_impl_yregsText_w_0, dec_nlt, cond_false]
        show cond _ _ _ = _
        rw [cond_false, blt_t (by omega), ble_t (by omega), List.drop_of_length_le (Nat.le_refl _)]
        show k (toBytes z) l0 = k (toBytes (z ++ [])) l0
        rw [List.append_nil]
      | succ d ih =>
        intro i f z hid hf hz hi0
        obtain ⟨f, rfl⟩ : ∃ j, f = j + 1 := ⟨f - 1, by omega⟩
        have hil : i < l0.length := by omega
        obtain ⟨y, hy⟩ := nth_some hil
        simp only [l_impl_yregsText_w_0, s_impl_yregsText_w_0, dec_lt hil, dec_nn, Int.toNat_natCast, elemK_some hy, wrap_next hil (by omega), Bool.and_true, cond_true, impl_PutWord_eq]
        rw [impl_WriteString_eq (M + 1) (by rw [putWord_size]; omega), cond_same, ih (i + 1) f _ (by omega) (by omega) (by rw [List.length_append, ofBytes_length, putWord_size]; omega) (by omega)]
        have hdr : l0.drop i = y :: l0.drop (i + 1) := by
          rw [nth_eq] at hy
          obtain ⟨h1, h2⟩ := List.getElem?_eq_some_iff.1 hy
          rw [← h2]; exact List.drop_eq_getElem_cons h1
        rw [hdr, List.append_assoc, ← ofBytes_append]
        rfl
    have h1 := key (l0.length - 1) 1 M ([] ++ ofBytes (putWord x)) (by omega) (by omega) (by rw [List.length_append, ofBytes_length, putWord_size]; rfl) (by omega)
    refine h1.trans ?_
    have hdr : l0.drop 1 = l := by rw [hl0]; rfl
    rw [hdr, List.nil_append, ← ofBytes_append, toBytes_ofBytes, hl0]
    rfl

theorem impl_yjoinw_eq {l : List ByteArray} {b : Bool} (h1 : l.length ≤ 2 ^ 40) (h2 : (catB l).size ≤ 2 ^ 40) (k : ByteArray → Option R) : g_impl_yjoin_w N b l k = k (catB l) := by
  unfold g_impl_yjoin_w
  rw [joinOk_cat h1 h2, cond_true, joinB_cat]

def isW (x : Int) : Bool := decide (x ≥ 0) && decide (x < 4294967296)

theorem spec_l04Words_r_eq {l : List Int} {b : Bool} (hl : l.length ≤ 2 ^ 40) (hN : 2 ^ 40 < N) (k : Bool → Option R) : g_spec_l04Words_r N b (l.length : Int) l k = k (!(l.any fun x => !isW x)) := by
  unfold g_spec_l04Words_r
  rw [bne_self_eq_false, cond_false]
  unfold c_spec_l04Words_r_0
  rw [srch (l_spec_l04Words_r_0 N b l.length l (k false) (k true)) l.length (fun i => atD l i (fun x => !isW x) true) (k false) (k true) (fun f i hi => ?_) (fun f => ?_) (by omega), any_atD]
  · cases l.any (fun x => !isW x) <;> rfl
  · obtain ⟨x, hx⟩ := nth_some hi
    simp only [l_spec_l04Words_r_0, s_spec_l04Words_r_0, dec_lt hi, dec_nn, Int.toNat_natCast, elemK_some hx, wrap_next hi (by omega), Bool.and_true, cond_true, atD_some hx, spec_l01IsWord_eq]
    rfl
  · simp only [l_spec_l04Words_r_0, s_spec_l04Words_r_0, dec_nlt, cond_false]

def regsOk (l : List Int) : Bool := decide (1 ≤ l.length) && decide (l.length ≤ 8) && !(l.any fun x => !isW x)

theorem spec_l15Regs_r_eq {l : List Int} {b : Bool} (hN : 2 ^ 40 < N) (k : Bool → Option R) : g_spec_l15Regs_r N b l k = k (regsOk l) := by
  unfold g_spec_l15Regs_r regsOk
  have h1 : decide ((l.length : Int) ≥ 1) = decide (1 ≤ l.length) := decide_eq_decide.2 (by omega)
  have h2 : decide ((l.length : Int) ≤ 8) = decide (l.length ≤ 8) := decide_eq_decide.2 (by omega)
  rw [h1, h2]
  by_cases ha : 1 ≤ l.length
  · by_cases hb : l.length ≤ 8
    · rw [decide_eq_true ha, decide_eq_true hb, spec_l04Words_r_eq N (by omega) hN]; rfl
    · rw [decide_eq_true ha, decide_eq_false hb]; rfl
  · rw [decide_eq_false ha]; rfl

theorem indexFunc_regs_eq {l : List Int} {b : Bool} (hl : l.length ≤ 2 ^ 40) (hN : 2 ^ 40 < N) (k : Int → Option R) : g_slices_IndexFunc_int64_Fimpl_yregsOk_1_r N b l k = k (fstAt l.length (fun i => atD l i (fun x => !isW x) true)) := by
  unfold g_slices_IndexFunc_int64_Fimpl_yregsOk_1_r c_slices_IndexFunc_int64_Fimpl_yregsOk_1_r_0
  rw [srchI (l_slices_IndexFunc_int64_Fimpl_yregsOk_1_r_0 N b l.length l (fun n3 => k n3) (k (-1))) l.length (fun i => atD l i (fun x => !isW x) true) (fun n3 => k n3) (k (-1)) (fun f i hi => ?_) (fun f => ?_) (by omega)]
  · unfold fstAt
    split <;> rfl
  · obtain ⟨x, hx⟩ := nth_some hi
    simp only [l_slices_IndexFunc_int64_Fimpl_yregsOk_1_r_0, s_slices_IndexFunc_int64_Fimpl_yregsOk_1_r_0, dec_lt hi, dec_nn, Int.toNat_natCast, elemK_some hx, wrap_next hi (by omega), Bool.and_true, cond_true, atD_some hx, g_impl_yregsOk_1, impl_yisWord_eq]
    rfl
  · simp only [l_slices_IndexFunc_int64_Fimpl_yregsOk_1_r_0, s_slices_IndexFunc_int64_Fimpl_yregsOk_1_r_0, dec_nlt, cond_false]

theorem impl_yregsOk_r_eq {l : List Int} {b : Bool} (hN : 2 ^ 40 < N) (k : Bool → Option R) : g_impl_yregsOk_r N b l k = k (regsOk l) := by
  unfold g_impl_yregsOk_r regsOk g_slices_ContainsFunc_int64_Fimpl_yregsOk_1_r
  have h1 : decide ((l.length : Int) ≥ 1) = decide (1 ≤ l.length) := decide_eq_decide.2 (by omega)
  have h2 : decide ((l.length : Int) ≤ 8) = decide (l.length ≤ 8) := decide_eq_decide.2 (by omega)
  rw [impl_yin_eq, h1, h2]
  by_cases hb : l.length ≤ 8
  · rw [indexFunc_regs_eq N (by omega) hN]
    simp only [fstAt_nonneg, any_atD]
    cases (decide (1 ≤ l.length) && decide (l.length ≤ 8)) <;> rfl
  · rw [decide_eq_false hb, Bool.and_false, cond_false]; rfl

theorem longKey_eq {s : ByteArray} (hN : 2 ^ 40 < N) (k : Bool → Option R) : g_impl_ylongKey_w N false [s] k = k (decide ((s.size : Int) > 4096)) := by
  unfold g_impl_ylongKey_w g_slices_ContainsFunc_string_Fimpl_ylongKey_1_w g_slices_IndexFunc_string_Fimpl_ylongKey_1_w c_slices_IndexFunc_string_Fimpl_ylongKey_1_w_0
  have := srchI (l_slices_IndexFunc_string_Fimpl_ylongKey_1_w_0 N false ([s].length : Nat) [s] (fun n => k (decide (n ≥ 0))) (k (decide ((-1 : Int) ≥ 0)))) 1 (fun i => atD [s] i (fun x => decide ((x.size : Int) > 4096)) true) (fun n => k (decide (n ≥ 0))) (k (decide ((-1 : Int) ≥ 0))) (fun f i hi => by
    obtain ⟨x, hx⟩ := nth_some (l := [s]) (n := i) hi
    have hi' : i < [s].length := hi
    simp only [l_slices_IndexFunc_string_Fimpl_ylongKey_1_w_0, s_slices_IndexFunc_string_Fimpl_ylongKey_1_w_0, dec_lt hi', dec_nn, Int.toNat_natCast, elemK_some hx, wrap_next hi (by omega), Bool.and_true, cond_true, atD_some hx, g_impl_ylongKey_1]) (fun f => by
    have : decide (((1 : Nat) : Int) < (([s].length : Nat) : Int)) = false := by simp
    simp only [l_slices_IndexFunc_string_Fimpl_ylongKey_1_w_0, s_slices_IndexFunc_string_Fimpl_ylongKey_1_w_0, this, cond_false]) (f := N) (by omega)
  refine this.trans ?_
  have e : (List.range 1).find? (fun i => atD [s] i (fun x => decide ((x.size : Int) > 4096)) true) = cond (decide ((s.size : Int) > 4096)) (some 0) none := by
    have e1 : atD [s] 0 (fun x => decide ((x.size : Int) > 4096)) true = decide ((s.size : Int) > 4096) := rfl
    rw [show List.range 1 = [0] from rfl, List.find?_cons, e1]
    cases decide ((s.size : Int) > 4096) <;> rfl
  rw [e]
  cases decide ((s.size : Int) > 4096) <;> rfl

def pM : Int := 2147482763

def powGo : Nat → Int → Int → Int → Int
  | 0, _, _, a => a
  | f + 1, x, n, a => if n > 0 then powGo f (x * x % pM) (n / 2) (if n % 2 = 1 then a * x % pM else a) else a

def pow4 (n : Int) : Int := powGo 64 4 n 1

theorem powGo_stop : ∀ (f g : Nat) (x n a : Int), n < 2 ^ f → f ≤ g → powGo g x n a = powGo f x n a
  | 0, 0, _, _, _, _, _ => rfl
  | 0, g + 1, x, n, a, hn, _ => by
    have : ¬ n > 0 := by have : (2 : Int) ^ 0 = 1 := rfl; omega
    simp only [powGo, if_neg this]
  | f + 1, 0, _, _, _, _, h => by omega
  | f + 1, g + 1, x, n, a, hn, h => by
    simp only [powGo]
    split
    · refine powGo_stop f g _ _ _ ?_ (by omega)
      have : (2 : Int) ^ (f + 1) = 2 ^ f * 2 := Int.pow_succ 2 f
      omega
    · rfl

theorem powGo_bound : ∀ (f : Nat) (x n a : Int), 0 ≤ a → a < pM → 0 ≤ powGo f x n a ∧ powGo f x n a < pM
  | 0, _, _, _, h0, h1 => ⟨h0, h1⟩
  | f + 1, x, n, a, h0, h1 => by
    simp only [powGo]
    split
    · refine powGo_bound f _ _ _ ?_ ?_
      · split
        · unfold pM; omega
        · exact h0
      · split
        · unfold pM; omega
        · exact h1
    · exact ⟨h0, h1⟩

/-- What has an inverse is not zero. -/
def Inv1 (a : Int) : Prop := ∃ u, a * u % pM = 1

theorem inv1_mul {a b : Int} (ha : Inv1 a) (hb : Inv1 b) : Inv1 (a * b % pM) := by
  obtain ⟨u, hu⟩ := ha
  obtain ⟨v, hv⟩ := hb
  refine ⟨u * v, ?_⟩
  have : a * b % pM * (u * v) % pM = ((a * u % pM) * (b * v % pM)) % pM := by
    rw [Int.mul_emod, Int.emod_emod_of_dvd _ (Int.dvd_refl _), ← Int.mul_emod, ← Int.mul_emod]
    congr 1
    rw [Int.mul_assoc, Int.mul_left_comm b u v, ← Int.mul_assoc]
  rw [this, hu, hv]
  rfl

theorem powGo_unit : ∀ (f : Nat) (x n a : Int), Inv1 x → Inv1 a → Inv1 (powGo f x n a)
  | 0, _, _, _, _, h => h
  | f + 1, x, n, a, hx, ha => by
    simp only [powGo]
    split
    · refine powGo_unit f _ _ _ (inv1_mul hx hx) ?_
      split
      · exact inv1_mul ha hx
      · exact ha
    · exact ha

theorem pow4_ne (n : Int) : pow4 n ≠ 0 := fun h => by
  obtain ⟨u, hu⟩ := powGo_unit 64 4 n 1 ⟨536870691, by unfold pM; omega⟩ ⟨1, by unfold pM; omega⟩
  change pow4 n * u % pM = 1 at hu
  rw [h, Int.zero_mul] at hu
  cases hu

theorem mul_small {a b : Int} (ha0 : 0 ≤ a) (ha : a < pM) (hb0 : 0 ≤ b) (hb : b < pM) : IntKind.wrap .i64 (a * b) = a * b ∧ 0 ≤ a * b := by
  have h1 : a * b ≤ pM * pM := Int.mul_le_mul (by omega) (by omega) hb0 (by unfold pM; omega)
  have h2 : 0 ≤ a * b := Int.mul_nonneg ha0 hb0
  have h3 : pM * pM = 4611682217382114169 := by decide
  exact ⟨w64 (by omega) (by omega), h2⟩

theorem emod_pM (a : Int) : 0 ≤ a % pM ∧ a % pM < pM := by unfold pM; omega

theorem spec_l15Power_go (kN : Int → Option R) : ∀ (f g : Nat) (x n a : Int), 0 ≤ x → x < pM → 0 ≤ n → n < 2 ^ f → f ≤ 62 → 0 ≤ a → a < pM → f < g → l_spec_l15Power_0 N kN g x n a = kN (powGo f x n a)
  | f, 0, _, _, _, _, _, _, _, _, _, _, h => by omega
  | 0, g + 1, x, n, a, _, _, hn0, hn, _, _, _, _ => by
    have : ¬ n > 0 := by have : (2 : Int) ^ 0 = 1 := rfl; omega
    simp only [l_spec_l15Power_0, s_spec_l15Power_0, decide_eq_false this, cond_false, powGo]
  | f + 1, g + 1, x, n, a, hx0, hx, hn0, hn, hf, ha0, ha, hg => by
    have hp2 : (2 : Int) ^ (f + 1) = 2 ^ f * 2 := Int.pow_succ 2 f
    by_cases h : n > 0
    · have hbig : (2 : Int) ^ (f + 1) ≤ 2 ^ 62 := by
        have : (2 : Nat) ^ (f + 1) ≤ 2 ^ 62 := Nat.pow_le_pow_right (by omega) hf
        exact_mod_cast this
      have hbig2 : (2 : Int) ^ 62 = 4611686018427387904 := by decide
      obtain ⟨e1, p1⟩ := mul_small ha0 ha hx0 hx
      obtain ⟨e2, p2⟩ := mul_small hx0 hx hx0 hx
      have hm : (Int.tmod n 2 == 1) = decide (n % 2 = 1) := by rw [tmod_nn hn0]; rfl
      simp only [l_spec_l15Power_0, s_spec_l15Power_0, decide_eq_true h, cond_true, cond_somes, oK_some_eq, e1, e2, tdiv_nn hn0, hm, w64 (n := n / 2) (by omega) (by omega), powGo, if_pos h]
      rw [tmod_nn p1, tmod_nn p2]
      have e3 : cond (decide (n % 2 = 1)) (a * x % 2147482763) a = if n % 2 = 1 then a * x % pM else a := by
        by_cases h1 : n % 2 = 1
        · rw [decide_eq_true h1, if_pos h1]; rfl
        · rw [decide_eq_false h1, if_neg h1]; rfl
      rw [e3]
      refine spec_l15Power_go kN f g _ _ _ (emod_pM _).1 (emod_pM _).2 (by omega) (by omega) (by omega) ?_ ?_ (by omega)
      · split
        · exact (emod_pM _).1
        · exact ha0
      · split
        · exact (emod_pM _).2
        · exact ha
    · simp only [l_spec_l15Power_0, s_spec_l15Power_0, decide_eq_false h, cond_false, powGo, if_neg h]

theorem impl_ypower_go (kN : Int → Option R) : ∀ (f g : Nat) (x n a : Int), 0 ≤ x → x < pM → 0 ≤ n → n < 2 ^ f → f ≤ 62 → 0 ≤ a → a < pM → f < g → l_impl_ypower_0 N kN g x n a = kN (powGo f x n a)
  | f, 0, _, _, _, _, _, _, _, _, _, _, h => by omega
  | 0, g + 1, x, n, a, _, _, hn0, hn, _, _, _, _ => by
    have : ¬ n > 0 := by have : (2 : Int) ^ 0 = 1 := rfl; omega
    simp only [l_impl_ypower_0, s_impl_ypower_0, decide_eq_false this, cond_false, powGo]
  | f + 1, g + 1, x, n, a, hx0, hx, hn0, hn, hf, ha0, ha, hg => by
    have hp2 : (2 : Int) ^ (f + 1) = 2 ^ f * 2 := Int.pow_succ 2 f
    by_cases h : n > 0
    · obtain ⟨e1, p1⟩ := mul_small ha0 ha hx0 hx
      obtain ⟨e2, p2⟩ := mul_small hx0 hx hx0 hx
      have hm : IntKind.wrap .i64 (((BitVec.ofInt 64 n &&& BitVec.ofInt 64 1).toNat : Nat) : Int) = n % 2 := and_mask n 1 (by omega)
      simp only [l_impl_ypower_0, s_impl_ypower_0, decide_eq_true h, cond_true, cond_somes, oK_some_eq, e1, e2, hm, fdiv_lit n (show (0 : Int) ≤ 2 by omega), powGo, if_pos h]
      rw [tmod_nn p1, tmod_nn p2]
      have e3 : cond (n % 2 == 1) (a * x % 2147482763) a = if n % 2 = 1 then a * x % pM else a := by
        by_cases h1 : n % 2 = 1
        · rw [h1]; rfl
        · rw [if_neg h1, show (n % 2 == 1) = false from decide_eq_false h1]; rfl
      rw [e3]
      refine impl_ypower_go kN f g _ _ _ (emod_pM _).1 (emod_pM _).2 (by omega) (by omega) (by omega) ?_ ?_ (by omega)
      · split
        · exact (emod_pM _).1
        · exact ha0
      · split
        · exact (emod_pM _).2
        · exact ha
    · simp only [l_impl_ypower_0, s_impl_ypower_0, decide_eq_false h, cond_false, powGo, if_neg h]

theorem spec_l15Power_eq {n : Int} (hn0 : 0 ≤ n) (hn : n < 2 ^ 62) (hN : 2 ^ 40 < N) (k : Int → Option R) : g_spec_l15Power N 4 n k = k (pow4 n) := by
  unfold g_spec_l15Power c_spec_l15Power_0 pow4
  rw [spec_l15Power_go N k 62 N 4 n 1 (by omega) (by unfold pM; omega) hn0 hn (by omega) (by omega) (by unfold pM; omega) (by omega), powGo_stop 62 64 4 n 1 hn (by omega)]

theorem impl_ypower_eq {n : Int} (hn0 : 0 ≤ n) (hn : n < 2 ^ 62) (hN : 2 ^ 40 < N) (k : Int → Option R) : g_impl_ypower N 4 n k = k (pow4 n) := by
  unfold g_impl_ypower c_impl_ypower_0 pow4
  rw [show Int.tmod 4 2147482763 = 4 from rfl, impl_ypower_go N k 62 N 4 n 1 (by omega) (by unfold pM; omega) hn0 hn (by omega) (by omega) (by unfold pM; omega) (by omega), powGo_stop 62 64 4 n 1 hn (by omega)]

def secOk (n : Int) : Bool := decide (n ≥ 1) && decide (n ≤ 1073741380)

def publicOf (n : Int) : Int := cond (secOk n) (pow4 n) 0

theorem spec_PublicOf_eq {n : Int} (hN : 2 ^ 40 < N) (k : Int → Option R) : g_spec_PublicOf N n k = k (publicOf n) := by
  unfold g_spec_PublicOf publicOf
  have hq : (cond (decide (n < 1)) true (decide (n ≥ 1073741381))) = !secOk n := by
    unfold secOk
    rw [Bool.eq_iff_iff]; simp; omega
  rw [cond_somes, oK_some_eq, hq]
  cases h : secOk n with
  | false => rfl
  | true =>
    have : 1 ≤ n ∧ n ≤ 1073741380 := by unfold secOk at h; simpa using h
    rw [Bool.not_true, cond_false, spec_l15Power_eq N (by omega) (by omega) hN]; rfl

theorem publicOf_zero (n : Int) : (publicOf n == 0) = !secOk n := by
  unfold publicOf
  cases h : secOk n with
  | false => rfl
  | true => exact decide_eq_false (pow4_ne n)

def quoteText (n : Int) (s : ByteArray) (l : List Int) : ByteArray := catB [putWord n, regsText l, s]

theorem quoteText_size (n : Int) (s : ByteArray) (l : List Int) : (quoteText n s l).size = 4 + 4 * l.length + s.size := by
  unfold quoteText
  rw [catB_size]
  simp only [List.map_cons, List.map_nil, List.sum_cons, List.sum_nil, putWord_size, regsText_size]
  omega

def qR (n : Int) (s : ByteArray) (l : List Int) : Int := 1 + mix (quoteText n s l) 41 % 1073741380

def qE (n : Int) (s : ByteArray) (l : List Int) : Int := mix (quoteText (pow4 (qR n s l)) s l) 42 % 1073741381

def quoteBad (n : Int) (s : ByteArray) (l : List Int) : Bool := !secOk n || (decide ((s.size : Int) > 4096) || !regsOk l)

def quoteS (n : Int) (s : ByteArray) (l : List Int) : Int := (qR n s l + qE n s l * n) % 1073741381

theorem qR_bound (n : Int) (s : ByteArray) (l : List Int) : 1 ≤ qR n s l ∧ qR n s l ≤ 1073741380 := by unfold qR; omega

theorem qE_bound (n : Int) (s : ByteArray) (l : List Int) : 0 ≤ qE n s l ∧ qE n s l ≤ 1073741380 := by unfold qE; omega

theorem quoteBad_facts {n : Int} {s : ByteArray} {l : List Int} (h : quoteBad n s l = false) : 1 ≤ n ∧ n ≤ 1073741380 ∧ s.size ≤ 4096 ∧ l.length ≤ 8 := by
  unfold quoteBad secOk regsOk at h
  simp at h
  omega

theorem mul_q {a n : Int} (h0 : 0 ≤ a) (h1 : a ≤ 1073741380) (g0 : 1 ≤ n) (g1 : n ≤ 1073741380) : 0 ≤ a * n ∧ a * n ≤ 1073741380 * 1073741380 :=
  ⟨Int.mul_nonneg h0 (by omega), Int.mul_le_mul h1 g1 (by omega) (by omega)⟩

theorem impl_QuoteOf_eq {n : Int} {s : ByteArray} {l : List Int} {b : Bool} (hN : 2 ^ 40 < N) (k : Int → Int → List Int → Option R) : g_impl_QuoteOf_w N n s b l k = cond (quoteBad n s l) (k 0 0 l) (k (pow4 (qR n s l)) (quoteS n s l) l) := by
  unfold g_impl_QuoteOf_w g_impl_ysecretOk
  simp only [impl_yin_eq, longKey_eq N hN, impl_yregsOk_r_eq N hN, cond_somes, oK_some_eq, Bool.cond_true_left]
  change cond (quoteBad n s l) _ _ = _
  cases hb : quoteBad n s l with
  | true => rfl
  | false =>
    obtain ⟨g0, g1, hs, hl⟩ := quoteBad_facts hb
    simp only [cond_false]
    have hq : ∀ m, (catB [putWord m, regsText l, s]).size ≤ 2 ^ 40 := fun m => by
      have := quoteText_size m s l
      unfold quoteText at this
      omega
    rw [impl_PutWord_eq, impl_yregsText_eq N (by omega) hN, impl_yjoinw_eq N (by simp) (hq n)]
    change g_impl_ymix N (quoteText n s l) 41 _ = _
    rw [impl_ymix_eq N (by rw [quoteText_size]; omega) hN]
    obtain ⟨m0, m1⟩ := mix_bound (quoteText n s l) 41
    rw [tmod_nn m0, w64 (n := 1 + _ % 1073741380) (by omega) (by omega)]
    change g_impl_ypower N 4 (qR n s l) _ = _
    obtain ⟨r0, r1⟩ := qR_bound n s l
    rw [impl_ypower_eq N (by omega) (by omega) hN]
    unfold g_impl_yquoteE_w
    rw [impl_PutWord_eq, impl_yregsText_eq N (by omega) hN, impl_yjoinw_eq N (by simp) (hq _)]
    change g_impl_ymix N (quoteText (pow4 (qR n s l)) s l) 42 _ = _
    rw [impl_ymix_eq N (by rw [quoteText_size]; omega) hN]
    obtain ⟨m2, m3⟩ := mix_bound (quoteText (pow4 (qR n s l)) s l) 42
    rw [tmod_nn m2]
    change k _ (Int.tmod (IntKind.wrap .i64 (qR n s l + IntKind.wrap .i64 (qE n s l * n))) 1073741381) l = _
    obtain ⟨e0, e1⟩ := qE_bound n s l
    obtain ⟨p0, p1⟩ := mul_q e0 e1 g0 g1
    rw [w64 (n := qE n s l * n) (by omega) (by omega), w64 (by omega) (by omega), tmod_nn (by omega)]
    rfl

theorem pow_emod (a p : Int) : ∀ k : Nat, (a % p) ^ k % p = a ^ k % p
  | 0 => by rw [Int.pow_zero, Int.pow_zero]
  | k + 1 => by
    rw [Int.pow_succ, Int.pow_succ, Int.mul_emod, pow_emod a p k, Int.emod_emod_of_dvd _ (Int.dvd_refl _), ← Int.mul_emod]

theorem pow_two_mul (x : Int) : ∀ k : Nat, (x * x) ^ k = x ^ (2 * k)
  | 0 => by rw [Nat.mul_zero, Int.pow_zero, Int.pow_zero]
  | k + 1 => by
    rw [Int.pow_succ, pow_two_mul x k, show 2 * (k + 1) = 2 * k + 1 + 1 by omega, Int.pow_succ, Int.pow_succ, Int.mul_assoc]

theorem pow_sum (x : Int) (m : Nat) : ∀ k : Nat, x ^ (m + k) = x ^ m * x ^ k
  | 0 => by simp
  | k + 1 => by rw [show m + (k + 1) = m + k + 1 by omega, Int.pow_succ, pow_sum x m k, Int.pow_succ, Int.mul_assoc]

theorem pow_prod (x : Int) (m : Nat) : ∀ k : Nat, x ^ (m * k) = (x ^ m) ^ k
  | 0 => by rw [Nat.mul_zero, Int.pow_zero, Int.pow_zero]
  | k + 1 => by rw [Nat.mul_succ, pow_sum, pow_prod x m k, Int.pow_succ]

theorem powGo_pow : ∀ (f : Nat) (x : Int) (n : Nat) (a : Int), n < 2 ^ f → 0 ≤ a → a < pM → powGo f x (n : Int) a = a * x ^ n % pM
  | 0, x, n, a, h, h0, h1 => by
    have : n = 0 := by simpa using h
    subst this
    rw [Int.pow_zero, Int.mul_one, Int.emod_eq_of_lt h0 h1]
    rfl
  | f + 1, x, n, a, h, h0, h1 => by
    simp only [powGo]
    by_cases hn : (n : Int) > 0
    · rw [if_pos hn]
      have e2 : (n : Int) / 2 = ((n / 2 : Nat) : Int) := by omega
      have hlt : n / 2 < 2 ^ f := by
        have : (2 : Nat) ^ (f + 1) = 2 ^ f * 2 := by rw [Nat.pow_succ]
        omega
      rw [e2]
      by_cases ho : (n : Int) % 2 = 1
      · rw [if_pos ho, powGo_pow f (x * x % pM) (n / 2) (a * x % pM) hlt (emod_pM _).1 (emod_pM _).2]
        rw [Int.mul_emod, pow_emod, pow_two_mul, Int.emod_emod_of_dvd _ (Int.dvd_refl _), ← Int.mul_emod]
        have : n = 2 * (n / 2) + 1 := by omega
        rw [show x ^ n = x ^ (2 * (n / 2) + 1) by rw [← this], Int.pow_succ, Int.mul_assoc, Int.mul_comm x]
      · rw [if_neg ho, powGo_pow f (x * x % pM) (n / 2) a hlt h0 h1]
        rw [Int.mul_emod, pow_emod, pow_two_mul, ← Int.mul_emod]
        have : n = 2 * (n / 2) := by omega
        rw [show x ^ n = x ^ (2 * (n / 2)) by rw [← this]]
    · rw [if_neg hn]
      have : n = 0 := by omega
      subst this
      rw [Int.pow_zero, Int.mul_one, Int.emod_eq_of_lt h0 h1]

theorem pow4_pow (n : Nat) (h : n < 2 ^ 62) : pow4 (n : Int) = 4 ^ n % pM := by
  unfold pow4
  rw [powGo_pow 64 4 n 1 (by omega) (by omega) (by unfold pM; omega), Int.one_mul]

def qOrd : Nat := 1073741381

theorem ord_one : (4 : Int) ^ qOrd % pM = 1 := by
  rw [← pow4_pow qOrd (by unfold qOrd; omega)]
  decide +kernel

theorem pow_ord (n : Nat) : (4 : Int) ^ n % pM = 4 ^ (n % qOrd) % pM := by
  have h : n = qOrd * (n / qOrd) + n % qOrd := (Nat.div_add_mod n qOrd).symm
  rw [show (4 : Int) ^ n = 4 ^ (qOrd * (n / qOrd) + n % qOrd) by rw [← h], pow_sum, pow_prod, Int.mul_emod, ← pow_emod, ord_one]
  have : (1 : Int) ^ (n / qOrd) % pM = 1 := by
    rw [Int.one_pow]; rfl
  rw [this, Int.one_mul, Int.emod_emod_of_dvd _ (Int.dvd_refl _)]

/-- What is quoted is taken. -/
theorem quote_sum (r e n : Nat) : (4 : Int) ^ ((r + e * n) % qOrd) % pM = (4 ^ r % pM) * ((4 ^ n % pM) ^ e % pM) % pM := by
  rw [← pow_ord, pow_sum, Nat.mul_comm e n, pow_prod, Int.mul_emod (4 ^ r), ← pow_emod (4 ^ n)]


theorem impl_yregsText_r_eq {l : List Int} {b : Bool} (hl : l.length ≤ 2 ^ 30) (hN : 2 ^ 40 < N) (k : ByteArray → List Int → Option R) : g_impl_yregsText_r N b l k = k (regsText l) l := by
  obtain ⟨M, rfl⟩ : ∃ M, N = M + 1 := ⟨N - 1, by omega⟩
  unfold g_impl_yregsText_r c_impl_yregsText_r_0b1
  cases l with
  | nil => rfl
  | cons x l =>
    have hi : (0 : Nat) < (x :: l).length := by simp
    obtain ⟨l0, hl0⟩ : ∃ l0, l0 = x :: l := ⟨_, rfl⟩
    have hx : nth l0 0 = some x := by rw [hl0]; rfl
    rw [← hl0] at hl hi ⊢
    have d1 : decide ((0 : Int) < (l0.length : Int)) = true := decide_eq_true (by omega)
    have d2 : IntKind.wrap .i64 ((0 : Int) + 1) = ((1 : Nat) : Int) := by rw [w64 (by omega) (by omega)]; rfl
    simp only [l_impl_yregsText_r_0b1, s_impl_yregsText_r_0b1, d1, d2, decide_true, Int.toNat_zero, Bool.and_self, elemK_some hx, Int.le_refl, cond_true, impl_PutWord_eq]
    rw [impl_WriteString_eq0 (M + 1) (by rw [putWord_size]; simp)]
    have hb0 : cond (Nat.beq (putWord x).size 0) true false = false := by rw [putWord_size]; rfl
    rw [hb0]
    let kN : List Int → Bool → List Int → Option R := fun l7 b7 l8 => cond b7 (k ⟨[].toArray⟩ l7) (cond (Nat.blt 0 l8.length && Nat.ble l8.length 9223372036854775807) (k (toBytes l8) l7) none)
    have key : ∀ d i f z, i + d = l0.length → d < f → z.length = 4 * i → 0 < i → l_impl_yregsText_r_0 (M + 1) b l0.length l0 kN f (i : Int) false z = k (toBytes (z ++ ofBytes (regsText (l0.drop i)))) l0 := by
      intro d
      induction d with
      | zero =>
        intro i f z hid hf hz hi0
        obtain ⟨f, rfl⟩ : ∃ j, f = j + 1 := ⟨f - 1, by omega⟩
        have : i = l0.length := by omega
        subst this
        simp only [l_impl_yregsText_r_0, s_impl_yregsText_r_0, dec_nlt, cond_false]
        show cond _ _ _ = _
        rw [cond_false, blt_t (by omega), ble_t (by omega), List.drop_of_length_le (Nat.le_refl _)]
        show k (toBytes z) l0 = k (toBytes (z ++ [])) l0
        rw [List.append_nil]
      | succ d ih =>
        intro i f z hid hf hz hi0
        obtain ⟨f, rfl⟩ : ∃ j, f = j + 1 := ⟨f - 1, by omega⟩
        have hil : i < l0.length := by omega
        obtain ⟨y, hy⟩ := nth_some hil
        simp only [l_impl_yregsText_r_0, s_impl_yregsText_r_0, dec_lt hil, dec_nn, Int.toNat_natCast, elemK_some hy, wrap_next hil (by omega), Bool.and_true, cond_true, impl_PutWord_eq]
        rw [impl_WriteString_eq (M + 1) (by rw [putWord_size]; omega), cond_same, ih (i + 1) f _ (by omega) (by omega) (by rw [List.length_append, ofBytes_length, putWord_size]; omega) (by omega)]
        have hdr : l0.drop i = y :: l0.drop (i + 1) := by
          rw [nth_eq] at hy
          obtain ⟨h1, h2⟩ := List.getElem?_eq_some_iff.1 hy
          rw [← h2]; exact List.drop_eq_getElem_cons h1
        rw [hdr, List.append_assoc, ← ofBytes_append]
        rfl
    have h1 := key (l0.length - 1) 1 M ([] ++ ofBytes (putWord x)) (by omega) (by omega) (by rw [List.length_append, ofBytes_length, putWord_size]; rfl) (by omega)
    refine h1.trans ?_
    have hdr : l0.drop 1 = l := by rw [hl0]; rfl
    rw [hdr, List.nil_append, ← ofBytes_append, toBytes_ofBytes, hl0]
    rfl

theorem spec_l15All_r_eq {n : Int} {s : ByteArray} {l : List Int} {b : Bool} (hl : l.length ≤ 8) (hs : s.size ≤ 4096) (hN : 2 ^ 40 < N) (k : ByteArray → Option R) : g_spec_l15All_r N n b s l k = k (quoteText n s l) := by
  unfold g_spec_l15All_r c_spec_l15All_r_0
  rw [spec_PutWord_eq]
  obtain ⟨h1, h2⟩ := foldL (fun f i z => l_spec_l15All_r_0 N b s l (fun s5 => cond (Nat.ble (s5.size + s.size) 9223372036854775807) (k (s5 ++ s)) none) f z i) l (fun z x => z ++ putWord x) (fun i z => z.size = 4 + 4 * i) (fun s5 => cond (Nat.ble (s5.size + s.size) 9223372036854775807) (k (s5 ++ s)) none) (fun f i z x hi hx hz => by
      simp only [l_spec_l15All_r_0, s_spec_l15All_r_0, dec_lt hi, dec_nn, Int.toNat_natCast, elemK_some hx, spec_PutWord_eq, putWord_size, ble_t (show z.size + 4 ≤ 9223372036854775807 by omega), wrap_next hi (by omega), Bool.and_true, cond_true]
      exact ⟨trivial, by rw [ByteArray.size_append, putWord_size]; omega⟩) (fun f z _ => by
      simp only [l_spec_l15All_r_0, s_spec_l15All_r_0, dec_nlt, cond_false]) (s := putWord n) (putWord_size n) (f := N) (by omega)
  refine h1.trans ?_
  rw [foldl_append] at h2 ⊢
  rw [ble_t (by omega), cond_true]
  congr 1
  unfold quoteText regsText
  simp only [catB]
  rw [ba_append_empty, ByteArray.append_assoc]

theorem spec_QuoteOf_r_eq {n : Int} {s : ByteArray} {l : List Int} {b : Bool} (hN : 2 ^ 40 < N) (k : Int → Int → Option R) : g_spec_QuoteOf_r N n s b l k = cond (quoteBad n s l) (k 0 0) (k (pow4 (qR n s l)) (quoteS n s l)) := by
  unfold g_spec_QuoteOf_r
  simp only [spec_PublicOf_eq N hN, publicOf_zero, spec_l15Regs_r_eq N hN, cond_somes, oK_some_eq, Bool.cond_true_left]
  change cond (quoteBad n s l) _ _ = _
  cases hb : quoteBad n s l with
  | true => rfl
  | false =>
    obtain ⟨g0, g1, hs, hl⟩ := quoteBad_facts hb
    simp only [cond_false]
    have ht : ∀ m, decide (((quoteText m s l).size : Int) > 65536) = false := fun m => decide_eq_false (by rw [quoteText_size]; omega)
    rw [spec_l15All_r_eq N hl hs hN, spec_Mix_eq N hN, ht, cond_false]
    obtain ⟨m0, m1⟩ := mix_bound (quoteText n s l) 41
    rw [tmod_nn m0, w64 (n := 1 + _ % 1073741380) (by omega) (by omega)]
    change g_spec_l15Power N 4 (qR n s l) _ = _
    obtain ⟨r0, r1⟩ := qR_bound n s l
    rw [spec_l15Power_eq N (by omega) (by omega) hN, spec_l15All_r_eq N hl hs hN, spec_Mix_eq N hN, ht, cond_false]
    obtain ⟨m2, m3⟩ := mix_bound (quoteText (pow4 (qR n s l)) s l) 42
    rw [tmod_nn m2]
    change k _ (Int.tmod (IntKind.wrap .i64 (qR n s l + Int.tmod (IntKind.wrap .i64 (qE n s l * n)) 1073741381)) 1073741381) = _
    obtain ⟨e0, e1⟩ := qE_bound n s l
    obtain ⟨p0, p1⟩ := mul_q e0 e1 g0 g1
    rw [w64 (n := qE n s l * n) (by omega) (by omega), tmod_nn p0, w64 (by omega) (by omega), tmod_nn (by omega)]
    unfold quoteS
    congr 1
    omega

def powx (x n : Int) : Int := powGo 64 x n 1

theorem spec_power_eq {x n : Int} (hx0 : 0 ≤ x) (hx : x < pM) (hn0 : 0 ≤ n) (hn : n < 2 ^ 62) (hN : 2 ^ 40 < N) (k : Int → Option R) : g_spec_l15Power N x n k = k (powx x n) := by
  unfold g_spec_l15Power c_spec_l15Power_0 powx
  rw [spec_l15Power_go N k 62 N x n 1 hx0 hx hn0 hn (by omega) (by omega) (by unfold pM; omega) (by omega), powGo_stop 62 64 x n 1 hn (by omega)]

theorem impl_power_eq {x n : Int} (hx0 : 0 ≤ x) (hx : x < pM) (hn0 : 0 ≤ n) (hn : n < 2 ^ 62) (hN : 2 ^ 40 < N) (k : Int → Option R) : g_impl_ypower N x n k = k (powx x n) := by
  unfold g_impl_ypower c_impl_ypower_0 powx
  have hm : Int.tmod x 2147482763 = x := by
    unfold pM at hx
    rw [tmod_nn hx0, Int.emod_eq_of_lt hx0 hx]
  rw [hm, impl_ypower_go N k 62 N x n 1 hx0 hx hn0 hn (by omega) (by omega) (by unfold pM; omega) (by omega), powGo_stop 62 64 x n 1 hn (by omega)]

theorem powx_bound (x n : Int) : 0 ≤ powx x n ∧ powx x n < pM := powGo_bound 64 x n 1 (by omega) (by unfold pM; omega)

theorem powx_four (n : Int) : powx 4 n = pow4 n := rfl

def qEx (r : Int) (s : ByteArray) (l : List Int) : Int := mix (quoteText r s l) 42 % 1073741381

def checkOk (p : Int) (s : ByteArray) (l : List Int) (r z : Int) : Bool := !decide ((s.size : Int) > 4096) && (regsOk l && ((decide (p ≥ 2) && decide (p ≤ 2147482762)) && ((powx p 1073741381 == 1) && ((decide (r ≥ 1) && decide (r ≤ 2147482762)) && (decide (z ≥ 0) && decide (z ≤ 1073741380))))))

def checkQ (p : Int) (s : ByteArray) (l : List Int) (r z : Int) : Bool := checkOk p s l r z && (pow4 z == r * powx p (qEx r s l) % pM)


theorem src_n_shape (n : Int) (b : Bool) (p m z : Int) (l : List Int) : ∃ M : Int, ∀ k : Int → Int → Int → Option R, g_spec_l01Src_n_Wr N n b p m z l k = cond (decide (n ≤ 1)) (k 0 p m)
    (cond (decide (p < (l.length : Int))) (cond (decide (0 ≤ p) && decide (p < (l.length : Int))) (elemK l p.toNat fun x => cond (IntKind.wrap .u64 n == 0) none (k (IntKind.wrap .i64 (Int.tmod (IntKind.wrap .u64 (IntKind.wrap .u64 x + Int.fdiv M 1048576)) (IntKind.wrap .u64 n))) (IntKind.wrap .i64 (p + 1)) M)) none)
      (cond (IntKind.wrap .u64 n == 0) none (k (IntKind.wrap .i64 (Int.tmod (IntKind.wrap .u64 (0 + Int.fdiv M 1048576)) (IntKind.wrap .u64 n))) p M))) := ⟨_, fun _ => rfl⟩

theorem wu64_nn (n : Int) : 0 ≤ IntKind.wrap .u64 n := by
  unfold IntKind.wrap
  have hb : (2 : Int) ^ IntKind.u64.bits = 18446744073709551616 := by decide
  have hs : IntKind.u64.signed = false := rfl
  rw [hb, hs]
  simp only [Bool.false_and]
  rw [if_neg (by decide)]
  omega

/-- A drawn number. -/
theorem src_n {n : Int} {b : Bool} {p m z : Int} {l : List Int} (hn : n ≤ 2 ^ 62) (hl : l.length ≤ 2 ^ 30) (hp : 0 ≤ p ∧ p ≤ 2 ^ 40) :
    ∃ v p' m' : Int, 0 ≤ v ∧ (1 < n → v < n) ∧ (n ≤ 1 → v = 0) ∧ (0 ≤ p' ∧ p' ≤ 2 ^ 40) ∧ ∀ k : Int → Int → Int → Option R, g_spec_l01Src_n_Wr N n b p m z l k = k v p' m' := by
  obtain ⟨M, hM⟩ := src_n_shape (R := R) N n b p m z l
  by_cases h1 : n ≤ 1
  · exact ⟨0, p, m, Int.le_refl 0, fun h => by omega, fun _ => rfl, hp, fun k => by rw [hM, decide_eq_true h1, cond_true]⟩
  have hw : IntKind.wrap .u64 n = n := wu64 (by omega) (by omega)
  have h0 : (IntKind.wrap .u64 n == 0) = false := by rw [hw, beq_dec]; exact decide_eq_false (by omega)
  have key : ∀ X : Int, IntKind.wrap .i64 (Int.tmod (IntKind.wrap .u64 X) (IntKind.wrap .u64 n)) = IntKind.wrap .u64 X % n := by
    intro X
    have := wu64_nn X
    have h2 := Int.emod_nonneg (IntKind.wrap .u64 X) (show n ≠ 0 by omega)
    have h3 := Int.emod_lt_of_pos (IntKind.wrap .u64 X) (show 0 < n by omega)
    rw [hw, tmod_nn this, w64 (by omega) (by omega)]
  have bnd : ∀ X : Int, 0 ≤ IntKind.wrap .u64 X % n ∧ IntKind.wrap .u64 X % n < n := fun X => ⟨Int.emod_nonneg _ (by omega), Int.emod_lt_of_pos _ (by omega)⟩
  by_cases h2 : p < (l.length : Int)
  · obtain ⟨i, rfl⟩ := Int.eq_ofNat_of_zero_le hp.1
    obtain ⟨x, hx⟩ := nth_some (l := l) (n := i) (by omega)
    obtain ⟨b1, b2⟩ := bnd (IntKind.wrap .u64 x + Int.fdiv M 1048576)
    refine ⟨_, ((i + 1 : Nat) : Int), M, b1, fun _ => b2, fun h => by omega, by omega, fun k => ?_⟩
    rw [hM, decide_eq_false h1, cond_false, decide_eq_true h2, cond_true, dec_nn, Bool.and_self, cond_true, Int.toNat_natCast, elemK_some hx, h0, cond_false, key, w64 (n := (i : Int) + 1) (by omega) (by omega)]
    rfl
  · obtain ⟨b1, b2⟩ := bnd (0 + Int.fdiv M 1048576)
    exact ⟨_, p, M, b1, fun _ => b2, fun h => by omega, hp, fun k => by rw [hM, decide_eq_false h1, cond_false, decide_eq_false h2, cond_false, h0, cond_false, key]⟩

theorem src_one {n : Int} {b : Bool} {p m z : Int} {l : List Int} (hn : n ≤ 2 ^ 62) (hl : l.length ≤ 2 ^ 30) (hp : 0 ≤ p ∧ p ≤ 2 ^ 40) :
    ∃ (v : Bool) (p' m' : Int), (0 ≤ p' ∧ p' ≤ 2 ^ 40) ∧ ∀ k : Bool → Int → Int → Option R, g_spec_l01Src_one_Wr N n b p m z l k = k v p' m' := by
  obtain ⟨v, p', m', _, _, _, h, hk⟩ := src_n (R := R) N (b := b) (m := m) (z := z) hn hl hp
  exact ⟨_, p', m', h, fun k => by unfold g_spec_l01Src_one_Wr; rw [hk]⟩

/-- One of so many that are listed. -/
theorem pick_lit {T : Type} {L : List T} {v : Int} (h0 : 0 ≤ v) (h1 : v < (L.length : Int)) : ∃ x, x ∈ L ∧ ∀ K : T → Option R, elemK L v.toNat K = K x := by
  obtain ⟨i, rfl⟩ := Int.eq_ofNat_of_zero_le h0
  obtain ⟨x, hx⟩ := nth_some (l := L) (n := i) (by omega)
  exact ⟨x, nth_mem hx, fun K => by rw [Int.toNat_natCast, elemK_some hx]⟩

theorem in_rng {v n : Int} (h0 : 0 ≤ v) (h1 : v < n) : (decide (0 ≤ v) && decide (v < n)) = true := by rw [decide_eq_true h0, decide_eq_true h1]; rfl

theorem src_go {b1 b2 : Bool} {n1 n3 : Int} {l : List Int} (hl : l.length ≤ 2 ^ 30) : ∀ (d f i : Nat) (m : Int), i + d = l.length → d < f → ∃ m' : Int, ∀ kN : Int → Option R, l_spec_l01Source_r_0 N b1 l b2 n1 n3 kN f (i : Int) m = kN m' := by
  intro d
  induction d with
  | zero =>
    intro f i m hi hf
    obtain ⟨f, rfl⟩ : ∃ j, f = j + 1 := ⟨f - 1, by omega⟩
    refine ⟨m, fun kN => ?_⟩
    rw [l_spec_l01Source_r_0, s_spec_l01Source_r_0, decide_eq_false (show ¬ (i : Int) < (l.length : Int) by omega)]
    rfl
  | succ d ih =>
    intro f i m hi hf
    obtain ⟨f, rfl⟩ : ∃ j, f = j + 1 := ⟨f - 1, by omega⟩
    by_cases h : (i : Int) < 64
    · obtain ⟨x, hx⟩ := nth_some (l := l) (n := i) (by omega)
      have hlt : i < l.length := by omega
      obtain ⟨m', hm⟩ := ih f (i + 1) (IntKind.wrap .u64 ((IntKind.wrap .u64 (((BitVec.toNat ((BitVec.ofInt 64 m) ^^^ (BitVec.ofInt 64 (IntKind.wrap .u64 x)))) : Nat) : Int)) * (1099511628211 : Int))) (by omega) (by omega)
      refine ⟨m', fun kN => ?_⟩
      rw [l_spec_l01Source_r_0, s_spec_l01Source_r_0, dec_lt hlt, cond_true, oK_some_eq, decide_eq_true h, cond_true, dec_nn, Bool.and_self, cond_true, Int.toNat_natCast, elemK_some hx, wrap_next hlt (by omega)]
      exact hm kN
    · refine ⟨m, fun kN => ?_⟩
      rw [l_spec_l01Source_r_0, s_spec_l01Source_r_0, decide_eq_true (show (i : Int) < (l.length : Int) by omega), cond_true, oK_some_eq, decide_eq_false h, cond_false]

/-- A source. -/
theorem src_of {b : Bool} {l : List Int} (hl : l.length ≤ 2 ^ 30) (hN : 2 ^ 40 < N) : ∃ m z : Int, 0 ≤ z ∧ z ≤ 12 ∧ ∀ k : Int → Int → Option R, g_spec_l01Source_r N b l k = k m z := by
  obtain ⟨m, hm⟩ := src_go (R := R) N (b1 := b) (b2 := b) (n1 := 0) (n3 := 0) hl l.length N 0 88172645463325252 (by omega) (by omega)
  by_cases h : (l.length : Int) > 12
  · refine ⟨m, 12, by omega, by omega, fun k => ?_⟩
    unfold g_spec_l01Source_r c_spec_l01Source_r_0
    refine (hm _).trans ?_
    rw [decide_eq_true h, cond_true]
  · refine ⟨m, l.length, by omega, by omega, fun k => ?_⟩
    unfold g_spec_l01Source_r c_spec_l01Source_r_0
    refine (hm _).trans ?_
    rw [decide_eq_false h, cond_false]

theorem src_bytes_go {n4 n8 : Int} {b2 : Bool} {l : List Int} (hl : l.length ≤ 2 ^ 30) : ∀ (d f i : Nat) (p m : Int) (b1 : Bool) (L : List Int), (i : Int) + d = n4 → d < f → (0 ≤ p ∧ p ≤ 2 ^ 40) → L.length = i → i + d ≤ 2 ^ 30 →
    ∃ (b' : Bool) (p' m' : Int) (L' : List Int), (0 ≤ p' ∧ p' ≤ 2 ^ 40) ∧ L'.length = i + d ∧ ∀ kN : Bool → Int → Int → List Int → Option R, l_spec_l01Src_bytes_Wr_0 N n4 b2 n8 l kN f b1 (i : Int) p m L = kN b' p' m' L' := by
  intro d
  induction d with
  | zero =>
    intro f i p m b1 L hi hf hp hL hb
    obtain ⟨f, rfl⟩ : ∃ j, f = j + 1 := ⟨f - 1, by omega⟩
    refine ⟨b1, p, m, L, hp, by omega, fun kN => ?_⟩
    rw [l_spec_l01Src_bytes_Wr_0, s_spec_l01Src_bytes_Wr_0, decide_eq_false (show ¬ (i : Int) < n4 by omega), cond_false]
  | succ d ih =>
    intro f i p m b1 L hi hf hp hL hb
    obtain ⟨f, rfl⟩ : ∃ j, f = j + 1 := ⟨f - 1, by omega⟩
    obtain ⟨v, p1, m1, h0, h1, _, hp1, hv⟩ := src_n (R := R) N (n := 256) (b := b2) (m := m) (z := n8) (by omega) hl hp
    obtain ⟨b', p', m', L', hp', hL', hk⟩ := ih f (i + 1) p1 m1 (cond (Nat.beq 1 0) b1 false) (L ++ [IntKind.wrap .u8 v]) (by omega) (by omega) hp1 (by rw [List.length_append, List.length_singleton, hL]) (by omega)
    refine ⟨b', p', m', L', hp', by omega, fun kN => ?_⟩
    rw [l_spec_l01Src_bytes_Wr_0, s_spec_l01Src_bytes_Wr_0, decide_eq_true (show (i : Int) < n4 by omega), cond_true, hv, List.length_singleton, room (show (L.length + 1) * 1 ≤ 2 ^ 47 by omega) (by omega), cond_true, w64 (n := (i : Int) + 1) (by omega) (by omega)]
    exact hk kN

/-- Drawn bytes. -/
theorem src_bytes {n : Nat} {b : Bool} {p m z : Int} {l : List Int} (hn : n ≤ 2 ^ 30) (hl : l.length ≤ 2 ^ 30) (hp : 0 ≤ p ∧ p ≤ 2 ^ 40) (hN : 2 ^ 40 < N) :
    ∃ (s : ByteArray) (p' m' : Int), s.size = n ∧ (0 ≤ p' ∧ p' ≤ 2 ^ 40) ∧ ∀ k : ByteArray → Int → Int → Option R, g_spec_l01Src_bytes_Wr N (n : Int) b p m z l k = k s p' m' := by
  obtain ⟨b', p', m', L', hp', hL', hk⟩ := src_bytes_go (R := R) N (n4 := (n : Int)) (n8 := z) (b2 := b) hl n N 0 p m false [] (by omega) (by omega) hp rfl (by omega)
  refine ⟨toBytes L', p', m', by rw [toBytes_size]; omega, hp', fun k => ?_⟩
  unfold g_spec_l01Src_bytes_Wr c_spec_l01Src_bytes_Wr_0
  refine (hk _).trans ?_
  rw [Nat.zero_add, ble_t (Nat.le_refl _), cond_true, seg_all]

/-- Drawn zeros. -/
theorem src_zeros {n : Nat} {b : Bool} {p m z : Int} {l : List Int} (hn : n ≤ 2 ^ 30) : ∃ s : ByteArray, s.size = n ∧ ∀ k : ByteArray → Option R, g_spec_l01Src_zeros_Wr N (n : Int) b p m z l k = k s := by
  refine ⟨toBytes (List.replicate n 0), by rw [toBytes_size, List.length_replicate], fun k => ?_⟩
  unfold g_spec_l01Src_zeros_Wr
  rw [dec_self, dec_nn, Int.toNat_natCast, room (by omega) (by omega), Bool.and_self, Bool.and_self, cond_true, Nat.zero_add, ble_t (Nat.le_refl _), cond_true, seg_all]


theorem src_key {b : Bool} {p m z : Int} {l : List Int} (hl : l.length ≤ 2 ^ 30) (hp : 0 ≤ p ∧ p ≤ 2 ^ 40) (hN : 2 ^ 40 < N) :
    ∃ (s : ByteArray) (p' m' : Int), s.size ≤ 5000 ∧ (0 ≤ p' ∧ p' ≤ 2 ^ 40) ∧ ∀ k : ByteArray → Int → Int → Option R, g_spec_l01Src_key_Wr N b p m z l k = k s p' m' := by
  obtain ⟨v1, p1, m1, a0, a1, _, hp1, h1⟩ := src_n (R := R) N (n := 8) (b := b) (m := m) (z := z) (by omega) hl hp
  have a2 := a1 (by omega)
  obtain ⟨w1, rfl⟩ := Int.eq_ofNat_of_zero_le a0
  obtain ⟨s, p2, m2, hs, hp2, h2⟩ := src_bytes (R := R) N (n := w1) (b := b) (m := m1) (z := z) (by omega) hl hp1 hN
  obtain ⟨b1, p3, m3, hp3, h3⟩ := src_one (R := R) N (n := 30) (b := b) (m := m2) (z := z) (by omega) hl hp2
  cases b1 with
  | true =>
    obtain ⟨v4, p4, m4, c0, c1, _, hp4, h4⟩ := src_n (R := R) N (n := 3) (b := b) (m := m3) (z := z) (by omega) hl hp3
    have c2 := c1 (by omega)
    obtain ⟨w4, rfl⟩ := Int.eq_ofNat_of_zero_le c0
    have e4 : IntKind.wrap .i64 (4031 + (w4 : Int)) = ((4031 + w4 : Nat) : Int) := by rw [w64 (by omega) (by omega)]; omega
    obtain ⟨s1, hs1, h5⟩ := src_zeros (R := R) N (n := 4031 + w4) (b := b) (p := p4) (m := m4) (z := z) (l := l) (by omega)
    obtain ⟨b2, p6, m6, hp6, h6⟩ := src_one (R := R) N (n := 30) (b := b) (m := m4) (z := z) (by omega) hl hp4
    cases b2 with
    | true =>
      obtain ⟨v7, p7, m7, d0, d1, _, hp7, h7⟩ := src_n (R := R) N (n := 2) (b := b) (m := m6) (z := z) (by omega) hl hp6
      have d2 := d1 (by omega)
      obtain ⟨w7, rfl⟩ := Int.eq_ofNat_of_zero_le d0
      have e7 : IntKind.wrap .i64 (4096 + (w7 : Int)) = ((4096 + w7 : Nat) : Int) := by rw [w64 (by omega) (by omega)]; omega
      obtain ⟨s2, hs2, h8⟩ := src_zeros (R := R) N (n := 4096 + w7) (b := b) (p := p7) (m := m7) (z := z) (l := l) (by omega)
      exact ⟨s2, p7, m7, by omega, hp7, fun k => by unfold g_spec_l01Src_key_Wr; rw [h1, h2, h3, cond_true, h4, e4, h5, h6, cond_true, h7, e7, h8]⟩
    | false => exact ⟨s1, p6, m6, by omega, hp6, fun k => by unfold g_spec_l01Src_key_Wr; rw [h1, h2, h3, cond_true, h4, e4, h5, h6, cond_false]⟩
  | false =>
    obtain ⟨b2, p6, m6, hp6, h6⟩ := src_one (R := R) N (n := 30) (b := b) (m := m3) (z := z) (by omega) hl hp3
    cases b2 with
    | true =>
      obtain ⟨v7, p7, m7, d0, d1, _, hp7, h7⟩ := src_n (R := R) N (n := 2) (b := b) (m := m6) (z := z) (by omega) hl hp6
      have d2 := d1 (by omega)
      obtain ⟨w7, rfl⟩ := Int.eq_ofNat_of_zero_le d0
      have e7 : IntKind.wrap .i64 (4096 + (w7 : Int)) = ((4096 + w7 : Nat) : Int) := by rw [w64 (by omega) (by omega)]; omega
      obtain ⟨s2, hs2, h8⟩ := src_zeros (R := R) N (n := 4096 + w7) (b := b) (p := p7) (m := m7) (z := z) (l := l) (by omega)
      exact ⟨s2, p7, m7, by omega, hp7, fun k => by unfold g_spec_l01Src_key_Wr; rw [h1, h2, h3, cond_false, h6, cond_true, h7, e7, h8]⟩
    | false => exact ⟨s, p6, m6, by omega, hp6, fun k => by unfold g_spec_l01Src_key_Wr; rw [h1, h2, h3, cond_false, h6, cond_false]⟩

theorem src_num {b : Bool} {p m z : Int} {l : List Int} (hl : l.length ≤ 2 ^ 30) (hp : 0 ≤ p ∧ p ≤ 2 ^ 40) :
    ∃ (n p' m' : Int), (0 ≤ p' ∧ p' ≤ 2 ^ 40) ∧ ∀ k : Int → Int → Int → Option R, g_spec_l01Src_num_Wr N b p m z l k = k n p' m' := by
  obtain ⟨b1, p1, m1, hp1, h1⟩ := src_one (R := R) N (n := 3) (b := b) (m := m) (z := z) (by omega) hl hp
  cases b1 with
  | true =>
    obtain ⟨v2, p2, m2, _, _, _, hp2, h2⟩ := src_n (R := R) N (n := 1000) (b := b) (m := m1) (z := z) (by omega) hl hp1
    exact ⟨_, p2, m2, hp2, fun k => by unfold g_spec_l01Src_num_Wr; rw [h1, cond_true, h2]⟩
  | false =>
    obtain ⟨v2, p2, m2, a0, a1, _, hp2, h2⟩ := src_n (R := R) N (n := 15) (b := b) (m := m1) (z := z) (by omega) hl hp1
    have a2 := a1 (by omega)
    obtain ⟨x, _, hk⟩ := pick_lit (R := R) (L := [(0 : Int), (1 : Int), (2 : Int), (255 : Int), (256 : Int), (4095 : Int), (4096 : Int), (65535 : Int), (65536 : Int), (2147483647 : Int), (2147483648 : Int), (4294967295 : Int), (4294967296 : Int), (9223372036854775807 : Int), (-(9223372036854775808 : Int))]) a0 (by simpa using a2)
    obtain ⟨v3, p3, m3, _, _, _, hp3, h3⟩ := src_n (R := R) N (n := 3) (b := b) (m := m2) (z := z) (by omega) hl hp2
    exact ⟨_, p3, m3, hp3, fun k => by unfold g_spec_l01Src_num_Wr; rw [h1, cond_false, h2, in_rng a0 a2, cond_true, hk, h3]⟩


theorem checkOk_facts {p r z : Int} {s : ByteArray} {l : List Int} (h : checkOk p s l r z = true) : s.size ≤ 4096 ∧ regsOk l = true ∧ l.length ≤ 8 ∧ 2 ≤ p ∧ p < pM ∧ 1 ≤ r ∧ r < pM ∧ 0 ≤ z ∧ z ≤ 1073741380 := by
  unfold checkOk at h
  simp only [Bool.and_eq_true, Bool.not_eq_true', decide_eq_false_iff_not, decide_eq_true_eq] at h
  obtain ⟨h1, h2, h3, h4, h5, h6⟩ := h
  have hl : l.length ≤ 8 := by
    unfold regsOk at h2
    simp only [Bool.and_eq_true, decide_eq_true_eq] at h2
    exact h2.1.2
  unfold pM
  exact ⟨by omega, h2, hl, by omega, by omega, by omega, by omega, by omega, by omega⟩

theorem impl_quoteE_r_eq {n : Int} {s : ByteArray} {l : List Int} {b : Bool} (hl : l.length ≤ 8) (hs : s.size ≤ 4096) (hN : 2 ^ 40 < N) (k : Int → Option R) : g_impl_yquoteE_r N n s b l k = k (qEx n s l) := by
  unfold g_impl_yquoteE_r
  have hq : (catB [putWord n, regsText l, s]).size = 4 + 4 * l.length + s.size := quoteText_size n s l
  rw [impl_PutWord_eq, impl_yregsText_r_eq N (by omega) hN, impl_yjoinw_eq N (by simp) (by omega), impl_ymix_eq N (by omega) hN]
  have := (mix_bound (catB [putWord n, regsText l, s]) 42).1
  rw [tmod_nn this]
  rfl

theorem impl_CheckQuote_eq {p r z : Int} {s : ByteArray} {l : List Int} {b : Bool} (hl : l.length ≤ 2 ^ 30) (hN : 2 ^ 40 < N) (k : Bool → Option R) : g_impl_CheckQuote_r N p s b r z l k = k (checkQ p s l r z) := by
  have hc : (oK (g_impl_ylongKey_w N false [s] fun b1 =>
      cond b1 (some true) (g_impl_yregsOk_r N b l fun b2 =>
        cond (!b2) (some true) (g_impl_yin N p 2 2147482762 fun b3 =>
          cond (!b3) (some true) (g_impl_ypower N p 1073741381 fun n3 =>
            cond (n3 != 1) (some true) (g_impl_yin N r 1 2147482762 fun b4 =>
              cond (!b4) (some true) (g_impl_yin N z 0 1073741380 fun b5 => some (!b5))))))) (fun j => some j)) = some (!checkOk p s l r z) := by
    rw [longKey_eq N hN]
    unfold checkOk
    cases h1 : decide ((s.size : Int) > 4096) with
    | true => rfl
    | false =>
      rw [cond_false, impl_yregsOk_r_eq N hN]
      cases h2 : regsOk l with
      | false => rfl
      | true =>
        rw [Bool.not_true, cond_false, impl_yin_eq]
        cases h3 : (decide (p ≥ 2) && decide (p ≤ 2147482762)) with
        | false => rfl
        | true =>
          simp only [Bool.and_eq_true, decide_eq_true_eq] at h3
          rw [Bool.not_true, cond_false, impl_power_eq N (by omega) (by unfold pM; omega) (by omega) (by omega) hN, impl_yin_eq, impl_yin_eq, show (powx p 1073741381 != 1) = !(powx p 1073741381 == 1) from rfl]
          cases (powx p 1073741381 == 1) <;> cases (decide (r ≥ 1) && decide (r ≤ 2147482762)) <;> cases (decide (z ≥ 0) && decide (z ≤ 1073740380)) <;> rfl
  have hc2 : (g_impl_ylongKey_w N false [s] fun b1 =>
      cond b1 (some true) (g_impl_yregsOk_r N b l fun b2 =>
        cond (!b2) (some true) (g_impl_yin N p 2 2147482762 fun b3 =>
          cond (!b3) (some true) (g_impl_ypower N p 1073741381 fun n3 =>
            cond (n3 != 1) (some true) (g_impl_yin N r 1 2147482762 fun b4 =>
              cond (!b4) (some true) (g_impl_yin N z 0 1073741380 fun b5 => some (!b5))))))) = some (!checkOk p s l r z) := by
    revert hc
    generalize (g_impl_ylongKey_w N false [s] fun b1 => _) = X
    intro hc
    cases X with
    | none => cases hc
    | some x => exact hc
  unfold g_impl_CheckQuote_r checkQ
  rw [hc2, oK_some_eq]
  cases ho : checkOk p s l r z with
  | false => rfl
  | true =>
    obtain ⟨g1, g2, g3, g4, g5, g6, g7, g8, g9⟩ := checkOk_facts ho
    rw [Bool.not_true, cond_false, Bool.true_and, impl_power_eq N (by omega) (by unfold pM; omega) g8 (by omega) hN, powx_four, impl_quoteE_r_eq N g3 g1 hN]
    have he : 0 ≤ qEx r s l ∧ qEx r s l < 1073741381 := by unfold qEx; omega
    rw [impl_power_eq N (by omega) g5 he.1 (by omega) hN]
    obtain ⟨b1, b2⟩ := powx_bound p (qEx r s l)
    obtain ⟨m1, m2⟩ := mul_small (show 0 ≤ r by omega) g7 b1 b2
    rw [m1, tmod_nn m2]
    rfl

theorem spec_CheckQuote_eq {p r z : Int} {s : ByteArray} {l : List Int} {b : Bool} (hl : l.length ≤ 2 ^ 30) (hN : 2 ^ 40 < N) (k : Bool → Option R) : g_spec_CheckQuote_r N p s b r z l k = k (checkQ p s l r z) := by
  have hc2 : (cond (decide ((s.size : Int) > 4096)) (some true) (g_spec_l15Regs_r N b l fun b1 =>
      cond (!b1) (some true) (cond (decide (p < 2)) (some true) (cond (decide (p ≥ 2147482763)) (some true) (g_spec_l15Power N p 1073741381 fun n3 =>
        cond (n3 != 1) (some true) (cond (decide (r < 1)) (some true) (cond (decide (r ≥ 2147482763)) (some true) (cond (decide (z < 0)) (some true) (some (decide (z ≥ 1073741381)))))))))) ) = some (!checkOk p s l r z) := by
    unfold checkOk
    have a1 : decide (r < 1) = !decide (r ≥ 1) := by rw [← decide_not]; exact decide_eq_decide.2 (by omega)
    have a2 : decide (r ≥ 2147482763) = !decide (r ≤ 2147482762) := by rw [← decide_not]; exact decide_eq_decide.2 (by omega)
    have a3 : decide (z < 0) = !decide (z ≥ 0) := by rw [← decide_not]; exact decide_eq_decide.2 (by omega)
    have a4 : decide (z ≥ 1073741381) = !decide (z ≤ 1073741380) := by rw [← decide_not]; exact decide_eq_decide.2 (by omega)
    cases h1 : decide ((s.size : Int) > 4096) with
    | true => rfl
    | false =>
      rw [cond_false, spec_l15Regs_r_eq N hN]
      cases h2 : regsOk l with
      | false => rfl
      | true =>
        rw [Bool.not_true, cond_false]
        by_cases h3 : p ≥ 2
        · by_cases h4 : p ≤ 2147482762
          · rw [decide_eq_false (show ¬ p < 2 by omega), cond_false, decide_eq_false (show ¬ p ≥ 2147482763 by omega), cond_false, decide_eq_true h3, decide_eq_true h4, spec_power_eq N (by omega) (by unfold pM; omega) (by omega) (by omega) hN, a1, a2, a3, a4, show (powx p 1073741381 != 1) = !(powx p 1073741381 == 1) from rfl]
            cases (powx p 1073741381 == 1) <;> cases decide (r ≥ 1) <;> cases decide (r ≤ 2147482762) <;> cases decide (z ≥ 0) <;> cases decide (z ≤ 1073741380) <;> rfl
          · rw [decide_eq_false (show ¬ p < 2 by omega), cond_false, decide_eq_true (show p ≥ 2147482763 by omega), decide_eq_true h3, decide_eq_false h4]; rfl
        · rw [decide_eq_true (show p < 2 by omega), decide_eq_false h3]; rfl
  unfold g_spec_CheckQuote_r checkQ
  rw [hc2, oK_some_eq]
  cases ho : checkOk p s l r z with
  | false => rfl
  | true =>
    obtain ⟨g1, g2, g3, g4, g5, g6, g7, g8, g9⟩ := checkOk_facts ho
    have hqs := quoteText_size r s l
    rw [Bool.not_true, cond_false, Bool.true_and, spec_l15All_r_eq N g3 g1 hN, spec_Mix_eq N hN, decide_eq_false (by omega), cond_false, spec_power_eq N (by omega) (by unfold pM; omega) g8 (by omega) hN, powx_four]
    have hm := (mix_bound (quoteText r s l) 42).1
    have he : 0 ≤ qEx r s l ∧ qEx r s l < 1073741381 := by unfold qEx; omega
    rw [tmod_nn hm]
    change g_spec_l15Power N p (qEx r s l) _ = _
    rw [spec_power_eq N (by omega) g5 he.1 (by omega) hN]
    obtain ⟨b1, b2⟩ := powx_bound p (qEx r s l)
    obtain ⟨m1, m2⟩ := mul_small (show 0 ≤ r by omega) g7 b1 b2
    rw [m1, tmod_nn m2]
    rfl

/-- A quote is taken by the public number of its secret, and with no other sum. -/
theorem mod_four (a p : Int) : a * 4 % p = a % p * 4 % p := by
  rw [Int.mul_emod a 4, Int.mul_emod (a % p) 4, Int.emod_emod_of_dvd a (Int.dvd_refl p)]

theorem four_no (x : Int) (h0 : 0 ≤ x) (h1 : x < 2147482763) (h : x ≠ 0) : x * 4 % 2147482763 ≠ x := by
  intro h1'
  have h2 := Int.emod_add_mul_ediv (x * 4) 2147482763
  rw [h1'] at h2
  generalize x * 4 / 2147482763 = q at h2
  clear h1'
  have h4 : q ≤ -1 ∨ q = 0 ∨ q = 1 ∨ q = 2 ∨ q = 3 ∨ 4 ≤ q := by clear h2; omega
  rcases h4 with h4 | h4 | h4 | h4 | h4 | h4
  · have := Int.mul_le_mul_of_nonneg_left h4 (show (0 : Int) ≤ 2147482763 by decide)
    generalize 2147482763 * q = t at *
    omega
  · subst h4; omega
  · subst h4; omega
  · subst h4; omega
  · subst h4; omega
  · have := Int.mul_le_mul_of_nonneg_left h4 (show (0 : Int) ≤ 2147482763 by decide)
    generalize 2147482763 * q = t at *
    omega

theorem four_ne {x : Int} (h : 0 ≤ x ∧ x < pM) (h0 : x ≠ 0) : (x * 4 % pM == x) = false := by
  rw [beq_dec]
  exact decide_eq_false (four_no x h.1 h.2 h0)

theorem quote_taken {n : Int} {s : ByteArray} {l : List Int} (hb : quoteBad n s l = false) : (2 ≤ pow4 n → checkQ (pow4 n) s l (pow4 (qR n s l)) (quoteS n s l) = true) ∧ checkQ (pow4 n) s l (pow4 (qR n s l)) ((quoteS n s l + 1) % 1073741381) = false := by
  obtain ⟨g0, g1, hs, hl⟩ := quoteBad_facts hb
  obtain ⟨r0, r1⟩ := qR_bound n s l
  obtain ⟨e0, e1⟩ := qE_bound n s l
  obtain ⟨m, rfl⟩ := Int.eq_ofNat_of_zero_le (show 0 ≤ n by omega)
  obtain ⟨r, hr⟩ := Int.eq_ofNat_of_zero_le (show 0 ≤ qR (m : Int) s l by omega)
  obtain ⟨e, he⟩ := Int.eq_ofNat_of_zero_le e0
  have hro : regsOk l = true := by
    unfold quoteBad at hb
    simp only [Bool.or_eq_false_iff, Bool.not_eq_false'] at hb
    exact hb.2.2
  have bR := powx_bound 4 (qR (m : Int) s l)
  have bP := powx_bound 4 (m : Int)
  rw [powx_four] at bR bP
  have nR := pow4_ne (qR (m : Int) s l)
  have hZ : quoteS (m : Int) s l = (((r + e * m) % qOrd : Nat) : Int) := by
    unfold quoteS
    rw [hr, he]
    unfold qOrd
    rw [Int.natCast_emod, Int.natCast_add, Int.natCast_mul]
    rfl
  have hZb : (r + e * m) % qOrd < qOrd := Nat.mod_lt _ (by unfold qOrd; omega)
  have hZ4 : pow4 (quoteS (m : Int) s l) = 4 ^ ((r + e * m) % qOrd) % pM := by rw [hZ]; exact pow4_pow _ (Nat.lt_trans hZb (by unfold qOrd; omega))
  have hR4 : pow4 (qR (m : Int) s l) = 4 ^ r % pM := by rw [hr]; exact pow4_pow _ (by omega)
  have hP4 : pow4 (m : Int) = 4 ^ m % pM := pow4_pow _ (by omega)
  have hE : qEx (pow4 (qR (m : Int) s l)) s l = (e : Int) := he
  have hpe : powx (pow4 (m : Int)) (e : Int) = (pow4 (m : Int)) ^ e % pM := by
    unfold powx
    rw [powGo_pow 64 _ e 1 (by omega) (by omega) (by unfold pM; omega), Int.one_mul]
  have hsum : pow4 (quoteS (m : Int) s l) = pow4 (qR (m : Int) s l) * powx (pow4 (m : Int)) (qEx (pow4 (qR (m : Int) s l)) s l) % pM := by
    rw [hE, hpe, hZ4, hR4, hP4]
    exact quote_sum r e m
  have hsz : decide ((s.size : Int) > 4096) = false := decide_eq_false (by omega)
  refine ⟨fun hp => ?_, ?_⟩
  · have hord : powx (pow4 (m : Int)) 1073741381 = 1 := by
      have : powx (pow4 (m : Int)) ((qOrd : Nat) : Int) = (pow4 (m : Int)) ^ qOrd % pM := by
        unfold powx
        rw [powGo_pow 64 _ qOrd 1 (by unfold qOrd; omega) (by omega) (by unfold pM; omega), Int.one_mul]
      have h1 : (4 ^ m % pM) ^ qOrd % pM = (1 : Int) := by
        have h2 := pow_emod (4 ^ qOrd) pM m
        rw [ord_one, Int.one_pow] at h2
        rw [pow_emod, ← pow_prod, Nat.mul_comm, pow_prod, ← h2]
        rfl
      rw [hP4] at this ⊢
      exact this.trans h1
    unfold checkQ checkOk
    unfold pM at bR bP
    rw [hsz, hro, hord, decide_eq_true (show pow4 (m : Int) ≥ 2 from hp), decide_eq_true (show pow4 (m : Int) ≤ 2147482762 by omega), decide_eq_true (show pow4 (qR (m : Int) s l) ≥ 1 by omega), decide_eq_true (show pow4 (qR (m : Int) s l) ≤ 2147482762 by omega), decide_eq_true (show quoteS (m : Int) s l ≥ 0 by rw [hZ]; omega), decide_eq_true (show quoteS (m : Int) s l ≤ 1073741380 by rw [hZ]; have h9 : (r + e * m) % qOrd < 1073741381 := hZb; omega), ← hsum, beq_self_eq_true, beq_self_eq_true]
    rfl
  · have hZ1 : (quoteS (m : Int) s l + 1) % 1073741381 = (((r + e * m) % qOrd + 1) % qOrd : Nat) := by
      rw [hZ]
      unfold qOrd
      omega
    have hZ1b : ((r + e * m) % qOrd + 1) % qOrd < qOrd := Nat.mod_lt _ (by unfold qOrd; omega)
    have h4 : pow4 ((quoteS (m : Int) s l + 1) % 1073741381) = pow4 (quoteS (m : Int) s l) * 4 % pM := by
      rw [hZ1, pow4_pow _ (Nat.lt_trans hZ1b (by unfold qOrd; omega)), ← pow_ord, Int.pow_succ, hZ4, mod_four]
    have bX := powx_bound 4 (quoteS (m : Int) s l)
    rw [powx_four] at bX
    have nX := pow4_ne (quoteS (m : Int) s l)
    unfold checkQ
    rw [← hsum, h4]
    rw [four_ne bX nX, Bool.and_false]

theorem regs_go {b2 : Bool} {n9 : Int} {l1 : List Int} (hl : l1.length ≤ 2 ^ 30) : ∀ (d f : Nat) (b1 : Bool) (p m : Int) (L : List Int), d < f → L.length + d ≤ 100 → (0 ≤ p ∧ p ≤ 2 ^ 40) →
    ∃ (b' : Bool) (p' m' : Int) (L' : List Int), L'.length ≤ 100 ∧ (0 ≤ p' ∧ p' ≤ 2 ^ 40) ∧ ∀ kN : Bool → Int → Int → List Int → Option R, l_spec_l01Src_regs_Wr_0 N b2 n9 l1 kN f b1 (d : Int) p m L = kN b' p' m' L' := by
  intro d
  induction d with
  | zero =>
    intro f b1 p m L hf hL hp
    obtain ⟨f, rfl⟩ : ∃ j, f = j + 1 := ⟨f - 1, by omega⟩
    refine ⟨b1, p, m, L, by omega, hp, fun kN => ?_⟩
    rw [l_spec_l01Src_regs_Wr_0, s_spec_l01Src_regs_Wr_0, decide_eq_false (show ¬ ((0 : Nat) : Int) > 0 by omega), cond_false]
  | succ d ih =>
    intro f b1 p m L hf hL hp
    obtain ⟨f, rfl⟩ : ∃ j, f = j + 1 := ⟨f - 1, by omega⟩
    obtain ⟨n, p1, m1, hp1, h1⟩ := src_num (R := R) N (b := b2) (m := m) (z := n9) hl hp
    have e : IntKind.wrap .i64 (((d + 1 : Nat) : Int) - 1) = ((d : Nat) : Int) := by rw [w64 (by omega) (by omega)]; omega
    obtain ⟨b', p', m', L', f1, f2, f3⟩ := ih f (cond (Nat.beq 1 0) b1 false) p1 m1 (L ++ [word n]) (by omega) (by rw [List.length_append, List.length_singleton]; omega) hp1
    refine ⟨b', p', m', L', f1, f2, fun kN => ?_⟩
    rw [l_spec_l01Src_regs_Wr_0, s_spec_l01Src_regs_Wr_0, decide_eq_true (show ((d + 1 : Nat) : Int) > 0 by omega), cond_true, h1, spec_Word_eq, List.length_singleton, room (by omega) (by omega), cond_true, e]
    exact f3 kN

theorem src_regs {b : Bool} {p m z : Int} {l : List Int} (hl : l.length ≤ 2 ^ 30) (hp : 0 ≤ p ∧ p ≤ 2 ^ 40) (hN : 2 ^ 40 < N) :
    ∃ (b' : Bool) (p' m' : Int) (L : List Int), L.length ≤ 100 ∧ (0 ≤ p' ∧ p' ≤ 2 ^ 40) ∧ ∀ k : Bool → Int → Int → List Int → Option R, g_spec_l01Src_regs_Wr N b p m z l k = k b' p' m' L := by
  obtain ⟨v1, p1, m1, a0, a1, _, hp1, h1⟩ := src_n (R := R) N (n := 4) (b := b) (m := m) (z := z) (by omega) hl hp
  have a2 := a1 (by omega)
  obtain ⟨w, rfl⟩ := Int.eq_ofNat_of_zero_le a0
  have e : IntKind.wrap .i64 (1 + (w : Int)) = ((1 + w : Nat) : Int) := by rw [w64 (by omega) (by omega)]; omega
  obtain ⟨b3, p2, m2, L, f1, hp2, h2⟩ := regs_go (R := R) N (b2 := b) (n9 := z) hl (1 + w) N false p1 m1 [] (by omega) (by simp; omega) hp1
  obtain ⟨b4, p3, m3, hp3, h3⟩ := src_one (R := R) N (n := 15) (b := b) (m := m2) (z := z) (by omega) hl hp2
  cases b4 with
  | false =>
    refine ⟨b3, p3, m3, L, f1, hp3, fun k => ?_⟩
    unfold g_spec_l01Src_regs_Wr c_spec_l01Src_regs_Wr_0
    rw [h1, e]
    refine (h2 _).trans ?_
    rw [h3, cond_false]
  | true =>
    obtain ⟨v4, p4, m4, c0, c1, _, hp4, h4⟩ := src_n (R := R) N (n := 5) (b := b) (m := m3) (z := z) (by omega) hl hp3
    have c2 := c1 (by omega)
    have hd : ∀ k : Bool → Int → Int → List Int → Option R, g_spec_l01Src_regs_Wr N b p m z l k = cond (decide (v4 = 0)) (k false p4 m4 []) (cond (decide (v4 = 1)) (k false p4 m4 [(-(1 : Int))]) (cond (decide (v4 = 2)) (k false p4 m4 [(4294967296 : Int)]) (cond (decide (v4 = 3)) (k false p4 m4 (List.replicate 8 (0 : Int))) (cond (decide (v4 = 4)) (k false p4 m4 (List.replicate 9 (0 : Int))) none)))) := fun k => by
      unfold g_spec_l01Src_regs_Wr c_spec_l01Src_regs_Wr_0
      rw [h1, e]
      refine (h2 _).trans ?_
      rw [h3, cond_true, h4]
    have hv : v4 = 0 ∨ v4 = 1 ∨ v4 = 2 ∨ v4 = 3 ∨ v4 = 4 := by omega
    rcases hv with rfl | rfl | rfl | rfl | rfl
    · exact ⟨false, p4, m4, [], by simp, hp4, fun k => by rw [hd]; rfl⟩
    · exact ⟨false, p4, m4, [-1], by simp, hp4, fun k => by rw [hd]; rfl⟩
    · exact ⟨false, p4, m4, [4294967296], by simp, hp4, fun k => by rw [hd]; rfl⟩
    · exact ⟨false, p4, m4, List.replicate 8 0, by simp, hp4, fun k => by rw [hd]; rfl⟩
    · exact ⟨false, p4, m4, List.replicate 9 0, by simp, hp4, fun k => by rw [hd]; rfl⟩

theorem DrawQuoteOf_ok {b : Bool} {l : List Int} (hl : l.length ≤ 2 ^ 30) (hN : 2 ^ 40 < N) : ∃ (n : Int) (s : ByteArray) (b' : Bool) (L : List Int), L.length ≤ 100 ∧ ∀ k : Int → ByteArray → Bool → List Int → Option R, g_spec_DrawQuoteOf_r N b l k = k n s b' L := by
  obtain ⟨m, z, _, _, h0⟩ := src_of (R := R) N (b := b) hl hN
  obtain ⟨v1, p1, m1, _, _, _, hp1, h1⟩ := src_n (R := R) N (n := 1000000000) (b := b) (p := 0) (m := m) (z := z) (by omega) hl (by omega)
  obtain ⟨v2, p2, m2, a0, a1, _, hp2, h2⟩ := src_n (R := R) N (n := 6) (b := b) (m := m1) (z := z) (by omega) hl hp1
  have a2 := a1 (by omega)
  have a3 : v2 < (([IntKind.wrap .i64 (v1 + 1), (0 : Int), 1, 1073741381, 1073741380, -1].length : Nat) : Int) := by simpa using a2
  obtain ⟨x, _, hk⟩ := pick_lit (R := R) (L := [IntKind.wrap .i64 (v1 + 1), (0 : Int), 1, 1073741381, 1073741380, -1]) a0 a3
  obtain ⟨s, p3, m3, _, hp3, h3⟩ := src_key (R := R) N (b := b) (p := 0) (m := m) (z := z) hl (by omega) hN
  obtain ⟨b', p4, m4, L, f1, _, h4⟩ := src_regs (R := R) N (b := b) (m := m3) (z := z) hl hp3 hN
  exact ⟨x, s, b', L, f1, fun k => by unfold g_spec_DrawQuoteOf_r g_spec_DrawPublicOf_r; rw [h0, h0, h1, h2, in_rng a0 a3, cond_true, hk]; exact (h3 _).trans (h4 _)⟩

theorem impl_PublicOf_eq {n : Int} (hN : 2 ^ 40 < N) (k : Int → Option R) : g_impl_PublicOf N n k = k (publicOf n) := by
  unfold g_impl_PublicOf g_impl_ysecretOk publicOf
  rw [impl_yin_eq]
  change cond (!secOk n) _ _ = _
  cases h : secOk n with
  | false => rfl
  | true =>
    have : 1 ≤ n ∧ n ≤ 1073741380 := by unfold secOk at h; simpa using h
    rw [Bool.not_true, cond_false, impl_ypower_eq N (by omega) (by omega) hN]; rfl

theorem law_Quotes {b : Bool} {l : List Int} (hN : 2 ^ 40 < N) (k : Bool → Option R) : g_laws_FnQuotes_r N b l k = k true := by
  unfold g_laws_FnQuotes_r
  by_cases h : (l.length : Int) > 1048576
  · rw [decide_eq_true h]; rfl
  rw [decide_eq_false h, cond_false]
  have hl : l.length ≤ 2 ^ 30 := by omega
  obtain ⟨n, s, b1, L, hL, hd⟩ := DrawQuoteOf_ok (R := R) N (b := b) hl hN
  rw [hd, impl_QuoteOf_eq N hN]
  cases hb : quoteBad n s L with
  | true =>
    rw [cond_true, impl_PublicOf_eq N hN, spec_QuoteOf_r_eq N hN, hb, cond_true, spec_PublicOf_eq N hN]
    rw [bne_self_eq_false]
    rfl
  | false =>
    obtain ⟨t1, t2⟩ := quote_taken hb
    obtain ⟨g0, g1, hs, hl8⟩ := quoteBad_facts hb
    have hso : secOk n = true := by unfold secOk; rw [decide_eq_true (show n ≥ 1 by omega), decide_eq_true g1]; rfl
    have hpub : publicOf n = pow4 n := by unfold publicOf; rw [hso, cond_true]
    have hro : regsOk L = true := by
      unfold quoteBad at hb
      simp only [Bool.or_eq_false_iff, Bool.not_eq_false'] at hb
      exact hb.2.2
    have h1L : 1 ≤ L.length := by
      unfold regsOk at hro
      simp only [Bool.and_eq_true, decide_eq_true_eq] at hro
      exact hro.1.1
    have hn0 : (pow4 (qR n s L) == 0) = false := by rw [beq_dec]; exact decide_eq_false (pow4_ne _)
    have hS0 : 0 ≤ quoteS n s L ∧ quoteS n s L ≤ 1073741380 := by unfold quoteS; omega
    have hz : Int.tmod (IntKind.wrap .i64 (quoteS n s L + 1)) 1073741381 = (quoteS n s L + 1) % 1073741381 := by rw [w64 (by omega) (by omega), tmod_nn (by omega)]
    obtain ⟨x, hx⟩ := nth_some (l := L) (n := 0) (by omega)
    rw [cond_false, impl_PublicOf_eq N hN, spec_QuoteOf_r_eq N hN, hb, cond_false, beq_self_eq_true, beq_self_eq_true, spec_PublicOf_eq N hN, bne_self_eq_false]
    change (oK (some false) _) = _
    rw [oK_some_eq, cond_false, hn0, Bool.false_and, cond_false, room (by omega) (by omega), cond_true, List.nil_append, decide_eq_true (show (0 : Int) < (L.length : Int) by omega), cond_true, elemK_some hx, cond_true, elemK_some hx, blt_t (show 0 < L.length by omega), cond_true, hpub]
    by_cases hp : pow4 n < 2
    · rw [decide_eq_true hp, cond_true, impl_CheckQuote_eq N (by omega) hN, hz, t2, Bool.not_false, cond_true, impl_CheckQuote_eq N (by rw [nset_length]; omega) hN, spec_CheckQuote_eq N (by rw [nset_length]; omega) hN, beq_self_eq_true, oK_some_eq]
    · rw [decide_eq_false hp, cond_false, impl_CheckQuote_eq N (by omega) hN, t1 (by omega), cond_true, impl_CheckQuote_eq N (by omega) hN, hz, t2, Bool.not_false, cond_true, impl_CheckQuote_eq N (by rw [nset_length]; omega) hN, spec_CheckQuote_eq N (by rw [nset_length]; omega) hN, beq_self_eq_true, oK_some_eq]

end
end Go.Sa
