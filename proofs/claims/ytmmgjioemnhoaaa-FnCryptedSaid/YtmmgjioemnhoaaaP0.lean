import Derived.Test.YtmmgjioemnhoaaaW3
set_option linter.all false
namespace Go.Sa
open Go Go.Eng
section
variable {R : Type} (N : Nat)
variable {R : Type}

def word (n : Int) : Int := n % 4294967296

def putWord (n : Int) : ByteArray := toBytes [word n % 256, word n / 256 % 256, word n / 65536 % 256, word n / 16777216 % 256]

theorem putWord_size (n : Int) : (putWord n).size = 4 := toBytes_size _

theorem impl_PutWord_eq (n : Int) (k : ByteArray → Option R) : g_impl_PutWord N n k = k (putWord n) := by
  simp only [g_impl_PutWord, Go.Eng.wu8, wu32, fdiv_lit _ (show (0 : Int) ≤ 256 by omega), fdiv_lit _ (show (0 : Int) ≤ 65536 by omega), fdiv_lit _ (show (0 : Int) ≤ 16777216 by omega), seg_all]
  rfl

theorem spec_l01Mod_eq {n m : Int} (hm : 0 < m) (hm2 : m ≤ 2 ^ 62) (k : Int → Option R) : g_spec_l01Mod N n m k = k (n % m) := by
  unfold g_spec_l01Mod
  obtain ⟨h1, h2⟩ := tmod_bound (n := n) hm
  rw [show (m == 0) = false by rw [beq_dec]; exact decide_eq_false (by omega), ← tmod_add (n := n) hm]
  by_cases h : n.tmod m < 0
  · rw [decide_eq_true h, if_pos h, w64 (by omega) (by omega)]; rfl
  · rw [decide_eq_false h, if_neg h]; rfl

theorem impl_ymod_eq {n m : Int} (hm : 0 < m) (hm2 : m ≤ 2 ^ 62) (k : Int → Option R) : g_impl_ymod N n m k = k (n % m) := by
  unfold g_impl_ymod
  obtain ⟨h1, h2⟩ := tmod_bound (n := n) hm
  rw [show (m == 0) = false by rw [beq_dec]; exact decide_eq_false (by omega), ← tmod_add (n := n) hm]
  by_cases h : n.tmod m < 0
  · rw [decide_eq_true h, if_pos h, w64 (by omega) (by omega)]; rfl
  · rw [decide_eq_false h, if_neg h]; rfl

theorem spec_Word_eq (n : Int) (k : Int → Option R) : g_spec_Word N n k = k (word n) := by
  unfold g_spec_Word
  rw [spec_l01Mod_eq N (by omega) (by omega)]
  rfl

theorem spec_PutWord_eq (n : Int) (k : ByteArray → Option R) : g_spec_PutWord N n k = k (putWord n) := by
  simp only [g_spec_PutWord, spec_Word_eq, Go.Eng.wu8, fdiv_lit _ (show (0 : Int) ≤ 256 by omega), fdiv_lit _ (show (0 : Int) ≤ 65536 by omega), fdiv_lit _ (show (0 : Int) ≤ 16777216 by omega), seg_all]
  rfl


theorem ofBytes_length (s : ByteArray) : (ofBytes s).length = s.size := by
  unfold ofBytes
  rw [List.length_map, Array.length_toList]
  rfl

theorem nth_ofBytes {s : ByteArray} {i : Nat} (h : i < s.size) : nth (ofBytes s) i = some (bt s i) := by
  have h' : i < s.data.toList.length := by rw [Array.length_toList]; exact h
  unfold ofBytes bt
  rw [nth_eq, List.getElem?_map, List.getElem?_eq_getElem h', List.getD_eq_getElem?_getD, List.getElem?_eq_getElem h']
  rfl

theorem toBytes_ofBytes (s : ByteArray) : toBytes (ofBytes s) = s := by
  obtain ⟨⟨l⟩⟩ := s
  unfold toBytes ofBytes
  simp only [List.map_map]
  have : (l.map ((fun x : Int => UInt8.ofNat x.toNat) ∘ fun c : UInt8 => (c.toNat : Int))) = l := by
    rw [List.map_congr_left (g := id) (fun c _ => by simp), List.map_id]
  rw [this]

theorem ofBytes_append (s t : ByteArray) : ofBytes (s ++ t) = ofBytes s ++ ofBytes t := by
  obtain ⟨⟨a⟩⟩ := s
  obtain ⟨⟨b⟩⟩ := t
  have e : (⟨⟨a⟩⟩ ++ ⟨⟨b⟩⟩ : ByteArray).data = (⟨a⟩ ++ ⟨b⟩ : Array UInt8) := ByteArray.data_append
  unfold ofBytes
  rw [e]
  simp

theorem ofBytes_toBytes {l : List Int} (h : ∀ x ∈ l, 0 ≤ x ∧ x < 256) : ofBytes (toBytes l) = l := by
  unfold ofBytes toBytes
  simp only [List.map_map]
  rw [List.map_congr_left (g := id) (fun x hx => ?_), List.map_id]
  have := h x hx
  simp
  omega

theorem rng3 {a b c : Nat} (h1 : a ≤ b) (h2 : b ≤ c) : ((decide ((0 : Int) ≤ (a : Int)) && decide ((a : Int) ≤ (b : Int))) && decide ((b : Int) ≤ (c : Int))) = true := by
  rw [decide_eq_true (show (0 : Int) ≤ (a : Int) by omega), decide_eq_true (show (a : Int) ≤ (b : Int) by omega), decide_eq_true (show (b : Int) ≤ (c : Int) by omega)]; rfl

theorem bt_extract {s : ByteArray} {a b i : Nat} (h : a + i < b) : bt (s.extract a b) i = bt s (a + i) := by
  unfold bt
  rw [ByteArray.data_extract, Array.toList_extract, List.extract_eq_drop_take, List.getD_eq_getElem?_getD, List.getD_eq_getElem?_getD, List.getElem?_take_of_lt (by omega), List.getElem?_drop]

theorem bt_append_left {s t : ByteArray} {i : Nat} (h : i < s.size) : bt (s ++ t) i = bt s i := by
  have h' : i < s.data.toList.length := by rw [Array.length_toList]; exact h
  unfold bt
  rw [ByteArray.data_append, Array.toList_append, List.getD_eq_getElem?_getD, List.getD_eq_getElem?_getD, List.getElem?_append_left h']

theorem bt_append_right {s t : ByteArray} (i : Nat) : bt (s ++ t) (s.size + i) = bt t i := by
  have h' : s.size = s.data.toList.length := by rw [Array.length_toList]; rfl
  unfold bt
  rw [ByteArray.data_append, Array.toList_append, List.getD_eq_getElem?_getD, List.getD_eq_getElem?_getD, List.getElem?_append_right (by omega), h', Nat.add_sub_cancel_left]

theorem bytes_ext {s t : ByteArray} (h : s.size = t.size) (hb : ∀ i, i < s.size → bt s i = bt t i) : s = t := by
  have hs : s.size = s.data.toList.length := by rw [Array.length_toList]; rfl
  have ht : t.size = t.data.toList.length := by rw [Array.length_toList]; rfl
  have : s.data.toList = t.data.toList := by
    apply List.ext_getElem (by omega)
    intro i h1 h2
    have := hb i (by omega)
    unfold bt at this
    rw [List.getD_eq_getElem?_getD, List.getD_eq_getElem?_getD, List.getElem?_eq_getElem h1, List.getElem?_eq_getElem h2] at this
    simp only [Option.getD_some] at this
    exact UInt8.toNat_inj.1 (by omega)
  apply ByteArray.ext
  exact Array.ext' this

theorem extract_append_left {s t : ByteArray} {n : Nat} (h : n = s.size) : (s ++ t).extract 0 n = s := by
  subst h
  refine bytes_ext (by rw [ByteArray.size_extract, ByteArray.size_append]; omega) fun i hi => ?_
  rw [ByteArray.size_extract, ByteArray.size_append] at hi
  rw [bt_extract (by omega), Nat.zero_add, bt_append_left (by omega)]

theorem ybig_eq {t : ByteArray} (hN : 2 ^ 40 < N) (k : Bool → Option R) : g_impl_ybig_w N false [t] k = k (decide ((t.size : Int) > 65536)) := by
  obtain ⟨M, rfl⟩ : ∃ M, N = M + 2 := ⟨N - 2, by omega⟩
  unfold g_impl_ybig_w c_impl_ybig_w_0
  have hx : nth [t] 0 = some t := rfl
  show cond (decide ((t.size : Int) > 65536)) (k true) (k false) = _
  cases decide ((t.size : Int) > 65536) <;> rfl

/-- Texts, one behind the other. -/
def catB : List ByteArray → ByteArray
  | [] => ⟨[].toArray⟩
  | x :: l => x ++ catB l

theorem ba_append_empty (x : ByteArray) : x ++ (⟨[].toArray⟩ : ByteArray) = x := by
  apply ByteArray.ext
  simp

theorem ba_empty_append (x : ByteArray) : (⟨[].toArray⟩ : ByteArray) ++ x = x := by
  apply ByteArray.ext
  simp

theorem join_flatten : ∀ xs : List (List UInt8), Lib.join xs [] = xs.flatten
  | [] => rfl
  | x :: r => by
    rw [Lib.join_cons, List.flatten_cons]
    unfold Lib.joinTail
    simp

theorem catB_toList : ∀ l : List ByteArray, (catB l).data.toList = (l.map (·.data.toList)).flatten
  | [] => rfl
  | x :: l => by
    simp only [catB, List.map_cons, List.flatten_cons, ← catB_toList l]
    simp

theorem joinB_cat (l : List ByteArray) : joinB l ⟨[].toArray⟩ = catB l := by
  unfold joinB
  apply ByteArray.ext
  apply Array.ext'
  show Lib.join (l.map (·.data.toList)) [] = _
  rw [join_flatten, catB_toList]

theorem joinOk_cat {l : List ByteArray} (h1 : l.length ≤ 2 ^ 40) (h2 : (catB l).size ≤ 2 ^ 40) : joinOk l ⟨[].toArray⟩ = true := by
  unfold joinOk
  have h3 : (Lib.join (l.map (·.data.toList)) (⟨[].toArray⟩ : ByteArray).data.toList).length = (catB l).size := by
    show (Lib.join (l.map (·.data.toList)) []).length = _
    rw [join_flatten, ← catB_toList]
    rfl
  rw [h3, ble_t (by omega), ble_t (by omega)]
  rfl

theorem catB_size : ∀ l : List ByteArray, (catB l).size = (l.map (·.size)).sum
  | [] => rfl
  | x :: l => by
    simp only [catB, ByteArray.size_append, List.map_cons, List.sum_cons, catB_size l]

theorem tdiv_nn {n m : Int} (h : 0 ≤ n) : n.tdiv m = n / m := Int.tdiv_eq_ediv_of_nonneg h

theorem tmod_nn {n m : Int} (h : 0 ≤ n) : n.tmod m = n % m := Int.tmod_eq_emod_of_nonneg h

def mixStep (x b : Int) : Int := (x * 65599 + b + 1) % 2147483629

def mixGo (s : ByteArray) (x : Int) : Int := (List.range s.size).foldl (fun x i => mixStep x (bt s i)) x

def mix (s : ByteArray) (n : Int) : Int := (mixGo s (n % 2147483629 + 1) * 40503 + 77) % 2147483629

theorem mix_round {x b : Int} (hx0 : 0 ≤ x) (hx1 : x ≤ 2147483629) (hb0 : 0 ≤ b) (hb1 : b ≤ 255) :
    Int.tmod (IntKind.wrap .i64 (IntKind.wrap .i64 (IntKind.wrap .i64 (x * 65599) + IntKind.wrap .i64 b) + 1)) 2147483629 = mixStep x b := by
  rw [w64 (n := x * 65599) (by omega) (by omega), w64 (n := b) (by omega) (by omega), w64 (n := x * 65599 + b) (by omega) (by omega), w64 (by omega) (by omega), tmod_nn (by omega)]
  rfl

theorem impl_ymix_eq {s : ByteArray} {n : Int} (hs : s.size ≤ 2 ^ 40) (hN : 2 ^ 40 < N) (k : Int → Option R) : g_impl_ymix N s n k = k (mix s n) := by
  unfold g_impl_ymix
  rw [impl_ymod_eq N (by omega) (by omega)]
  have hm : 0 ≤ n % 2147483629 ∧ n % 2147483629 < 2147483629 := by omega
  rw [w64 (n := n % 2147483629 + 1) (by omega) (by omega)]
  unfold c_impl_ymix_0
  obtain ⟨h1, h2, h3⟩ := fold (fun f i x => l_impl_ymix_0 N s s.size (fun n5 => k (Int.tmod (IntKind.wrap .i64 (IntKind.wrap .i64 (n5 * 40503) + 77)) 2147483629)) f x i) s.size (fun i x => mixStep x (bt s i)) (fun _ x => 0 ≤ x ∧ x ≤ 2147483629) (fun n5 => k (Int.tmod (IntKind.wrap .i64 (IntKind.wrap .i64 (n5 * 40503) + 77)) 2147483629)) (fun f i x hi hx => by
      obtain ⟨b1, b2⟩ := bt_bound s i
      simp only [l_impl_ymix_0, s_impl_ymix_0, dec_lt hi, dec_nn, Int.toNat_natCast, wrap_next hi (by omega), Bool.and_true, cond_true, mix_round hx.1 hx.2 b1 b2]
      exact ⟨trivial, by unfold mixStep; omega⟩) (fun f x hx => by
      simp only [l_impl_ymix_0, s_impl_ymix_0, dec_nlt, cond_false]) (s := n % 2147483629 + 1) ⟨by omega, by omega⟩ (f := N) (by omega)
  refine h1.trans ?_
  rw [w64 (n := _ * 40503) (by omega) (by omega), w64 (by omega) (by omega), tmod_nn (by omega)]
  rfl

theorem spec_Mix_eq {s : ByteArray} {n : Int} (hN : 2 ^ 40 < N) (k : Int → Option R) : g_spec_Mix N s n k = k (cond (decide ((s.size : Int) > 65536)) 0 (mix s n)) := by
  unfold g_spec_Mix
  by_cases hs : (s.size : Int) > 65536
  · rw [decide_eq_true hs]; rfl
  rw [decide_eq_false hs, cond_false, cond_false, spec_l01Mod_eq N (by omega) (by omega)]
  have hm : 0 ≤ n % 2147483629 ∧ n % 2147483629 < 2147483629 := by omega
  rw [w64 (n := n % 2147483629 + 1) (by omega) (by omega)]
  unfold c_spec_Mix_0
  obtain ⟨h1, h2, h3⟩ := fold (fun f i x => l_spec_Mix_0 N s (fun n5 => k (Int.tmod (IntKind.wrap .i64 (IntKind.wrap .i64 (n5 * 40503) + 77)) 2147483629)) f x i) s.size (fun i x => mixStep x (bt s i)) (fun _ x => 0 ≤ x ∧ x ≤ 2147483629) (fun n5 => k (Int.tmod (IntKind.wrap .i64 (IntKind.wrap .i64 (n5 * 40503) + 77)) 2147483629)) (fun f i x hi hx => by
      obtain ⟨b1, b2⟩ := bt_bound s i
      simp only [l_spec_Mix_0, s_spec_Mix_0, dec_lt hi, dec_nn, Int.toNat_natCast, wrap_next hi (by omega), Bool.and_true, cond_true, mix_round hx.1 hx.2 b1 b2]
      exact ⟨trivial, by unfold mixStep; omega⟩) (fun f x hx => by
      simp only [l_spec_Mix_0, s_spec_Mix_0, dec_nlt, cond_false]) (s := n % 2147483629 + 1) ⟨by omega, by omega⟩ (f := N) (by omega)
  refine h1.trans ?_
  rw [w64 (n := _ * 40503) (by omega) (by omega), w64 (by omega) (by omega), tmod_nn (by omega)]
  rfl

theorem impl_WriteString_eq {s : ByteArray} {b : Bool} {l : List Int} (h : l.length + s.size ≤ 2 ^ 40) (k : Int → Bool → List Int → Option R) : g_strings_Builder_WriteString_Ww_v1 N s b l k = k (s.size : Int) (cond (Nat.beq s.size 0) b false) (l ++ ofBytes s) := by
  unfold g_strings_Builder_WriteString_Ww_v1
  rw [ofBytes_length, room (by omega) (by omega), cond_true]

theorem impl_WriteString_eq0 {s : ByteArray} {b : Bool} {l : List Int} (h : l.length + s.size ≤ 2 ^ 40) (k : Int → Bool → List Int → Option R) : g_strings_Builder_WriteString_Ww N s b l k = k (s.size : Int) (cond (Nat.beq s.size 0) b false) (l ++ ofBytes s) := by
  unfold g_strings_Builder_WriteString_Ww
  rw [ofBytes_length, room (by omega) (by omega), cond_true]

theorem impl_yjoinw_eq {l : List ByteArray} {b : Bool} (h1 : l.length ≤ 2 ^ 40) (h2 : (catB l).size ≤ 2 ^ 40) (k : ByteArray → Option R) : g_impl_yjoin_w N b l k = k (catB l) := by
  unfold g_impl_yjoin_w
  rw [joinOk_cat h1 h2, cond_true, joinB_cat]

theorem longKey_eq {s : ByteArray} (hN : 2 ^ 40 < N) (k : Bool → Option R) : g_impl_ylongKey_w N false [s] k = k (decide ((s.size : Int) > 4096)) := by
  unfold g_impl_ylongKey_w g_slices_ContainsFunc_string_Fimpl_ylongKey_1_w g_slices_IndexFunc_string_Fimpl_ylongKey_1_w c_slices_IndexFunc_string_Fimpl_ylongKey_1_w_0
  have := srchI (l_slices_IndexFunc_string_Fimpl_ylongKey_1_w_0 N false ([s].length : Nat) [s] (fun n => k (decide (n ≥ 0))) (k (decide ((-1 : Int) ≥ 0)))) 1 (fun i => atD [s] i (fun x => decide ((x.size : Int) > 4096)) true) (fun n => k (decide (n ≥ 0))) (k (decide ((-1 : Int) ≥ 0))) (fun f i hi => by
    obtain ⟨x, hx⟩ := nth_some (l := [s]) (n := i) hi
    have hi' : i < [s].length := hi
    simp only [l_slices_IndexFunc_string_Fimpl_ylongKey_1_w_0, s_slices_IndexFunc_string_Fimpl_ylongKey_1_w_0, dec_lt hi', dec_nn, Int.toNat_natCast, elemK_some hx, wrap_next hi (by omega), Bool.and_true, cond_true, atD_some hx, g_impl_ylongKey_1]) (fun f => by
    have : decide (((1 : Nat) : Int) < (([s].length : Nat) : Int)) = false := by simp
    simp only [l_slices_IndexFunc_string_Fimpl_ylongKey_1_w_0, s_slices_IndexFunc_string_Fimpl_ylongKey_1_w_0, this, cond_false]) (f := N) (by omega)
  refine this.trans ?_
  have e : (List.range 1).find? (fun i => atD [s] i (fun x => decide ((x.size : Int) > 4096)) true) = cond (decide ((s.size : Int) > 4096)) (some 0) none := by
    have e1 : atD [s] 0 (fun x => decide ((x.size : Int) > 4096)) true = decide ((s.size : Int) > 4096) := rfl
    rw [show List.range 1 = [0] from rfl, List.find?_cons, e1]
    cases decide ((s.size : Int) > 4096) <;> rfl
  rw [e]
  cases decide ((s.size : Int) > 4096) <;> rfl

def longB (s : ByteArray) : Bool := decide ((s.size : Int) > 4096)

theorem longB_size {s : ByteArray} (h : longB s = false) : s.size ≤ 4096 := by
  have := of_decide_eq_false h
  omega

def sh (W : Int) : Nat → Int
  | 0 => W
  | d + 1 => sh W d / 256

theorem sh_pow (W : Int) : ∀ {d : Nat}, d < 3 → Int.fdiv W (2 ^ (Min.min (8 * d) 64)) = sh W d
  | 0, _ => by rw [fdiv_lit _ (by decide)]; show W / 1 = W; omega
  | 1, _ => by rw [fdiv_lit _ (by decide)]; rfl
  | 2, _ => by rw [fdiv_lit _ (by decide)]; show W / 65536 = W / 256 / 256; omega
  | d + 3, h => by omega

def cryptW (s : ByteArray) (n : Int) (q : Nat) : Int := mix (s ++ putWord n ++ putWord (q : Int)) 11

def xb (x c : Int) : Int := IntKind.wrap .u8 (((BitVec.ofInt 8 x ^^^ BitVec.ofInt 8 (IntKind.wrap .u8 c)).toNat : Nat) : Int)

def cryptB (s : ByteArray) (n : Int) (i : Nat) (x : Int) : Int := xb x (sh (cryptW s n (i / 3)) (i % 3))

def cryptL (s : ByteArray) (n : Int) (l : List Int) : List Int := (List.range l.length).map fun i => atD l i (cryptB s n i) 0

theorem cryptL_length (s : ByteArray) (n : Int) (l : List Int) : (cryptL s n l).length = l.length := by simp [cryptL]

theorem nth_cryptL {s : ByteArray} {n : Int} {l : List Int} {i : Nat} {x : Int} (h : nth l i = some x) : nth (cryptL s n l) i = some (cryptB s n i x) := by
  have hi := nth_lt h
  unfold cryptL
  rw [nth_map, nth_eq, List.getElem?_range hi]
  show some (atD l i (cryptB s n i) 0) = _
  rw [atD_some h]

theorem cryptL_of {s : ByteArray} {n : Int} {l ys : List Int} (hl : ys.length = l.length) (h : ∀ j x, nth l j = some x → nth ys j = some (cryptB s n j x)) : ys = cryptL s n l := by
  refine ext_nth fun j => ?_
  rcases Nat.lt_or_ge j l.length with hj | hj
  · obtain ⟨x, hx⟩ := nth_some hj
    rw [h j x hx, nth_cryptL hx]
  · rw [nth_none (by omega), nth_none (by rw [cryptL_length]; exact hj)]

def cryptBad (s t : ByteArray) : Bool := longB s || decide ((t.size : Int) > 65536)

def crypt (s : ByteArray) (n : Int) (t : ByteArray) : ByteArray := cond (cryptBad s t) ⟨[].toArray⟩ (toBytes (cryptL s n (ofBytes t)))

theorem spec_Crypt_go {s : ByteArray} {n : Int} {l : List Int} (hs : s.size ≤ 4096) (hl : l.length ≤ 65536) (hN : 2 ^ 40 < N) (kN : List Int → Option R) : l_spec_Crypt_0 N (s ++ putWord n) false kN N 0 0 l = kN (cryptL s n l) := by
  obtain ⟨h1, h2, _, h4, _⟩ := fold (fun f i (st : Int × List Int) => l_spec_Crypt_0 N (s ++ putWord n) false kN f st.1 i st.2) l.length
    (fun i st => (cond (decide (i % 3 = 0)) (cryptW s n (i / 3)) st.1, nset st.2 i (atD st.2 i (fun x => xb x (sh (cond (decide (i % 3 = 0)) (cryptW s n (i / 3)) st.1) (i % 3))) 0)))
    (fun i st => st.2.length = l.length ∧ (i % 3 ≠ 0 → st.1 = cryptW s n (i / 3)) ∧ (∀ j x, j < i → nth l j = some x → nth st.2 j = some (cryptB s n j x)) ∧ ∀ j, i ≤ j → nth st.2 j = nth l j) (fun st => kN st.2)
    (fun f i st0 hi hst => by
      obtain ⟨w, ys⟩ := st0
      obtain ⟨i1, i2, i3, i4⟩ := hst
      dsimp only at i1 i2 i3 i4
      have hiy : i < ys.length := by omega
      obtain ⟨x, hx⟩ := nth_some hiy
      have hm : (Int.tmod (i : Int) 3 == 0) = decide (i % 3 = 0) := by
        rw [tmod_nn (by omega), beq_dec]
        exact decide_eq_decide.2 (by omega)
      have hd : IntKind.wrap .i64 (Int.tdiv (i : Int) 3) = ((i / 3 : Nat) : Int) := by rw [tdiv_nn (by omega), w64 (by omega) (by omega)]; omega
      have h8 : IntKind.wrap .u64 (IntKind.wrap .i64 (8 * Int.tmod (i : Int) 3)) = ((8 * (i % 3) : Nat) : Int) := by
        rw [tmod_nn (by omega), w64 (by omega) (by omega), wu64 (by omega) (by omega)]; omega
      have hsz : (s ++ putWord n).size = s.size + 4 := by rw [ByteArray.size_append, putWord_size]
      have hsz2 : ∀ q : Int, (s ++ putWord n ++ putWord q).size = s.size + 8 := fun q => by rw [ByteArray.size_append, hsz, putWord_size]
      have hbig : ∀ q : Int, decide (((s ++ putWord n ++ putWord q).size : Int) > 65536) = false := fun q => decide_eq_false (by rw [hsz2]; omega)
      refine ⟨?_, by simpa using i1, fun hne => ?_, fun j y hj hy => ?_, fun j hj => ?_⟩
      · simp only [l_spec_Crypt_0, s_spec_Crypt_0, dec_lt hiy, dec_nn, Int.toNat_natCast, hm, hd, spec_PutWord_eq, hsz, putWord_size, ble_t (show s.size + 4 + 4 ≤ 9223372036854775807 by omega), spec_Mix_eq N hN, hbig, cond_true, cond_false, cond_somes, oK_some_eq, elemK_some hx, h8, decide_eq_false (show ¬ (((8 * (i % 3) : Nat) : Int) < 0) by omega), sh_pow _ (show i % 3 < 3 by omega), blt_t hiy, wrap_next hi (by omega), Bool.and_true, atD_some hx]
        rfl
      · dsimp only
        by_cases h0 : i % 3 = 0
        · rw [decide_eq_true h0, cond_true]; congr 1; omega
        · rw [decide_eq_false h0, cond_false, i2 h0]; congr 1; omega
      · dsimp only
        rw [nth_nset]
        split
        · rename_i hc
          have hji : j = i := by have := hc.1; omega
          rw [hji] at hy ⊢
          have hxy : x = y := by
            have := i4 i (Nat.le_refl _)
            rw [hx, hy] at this
            exact Option.some.inj this
          subst hxy
          rw [atD_some hx]
          unfold cryptB
          by_cases h0 : i % 3 = 0
          · rw [decide_eq_true h0, cond_true]
          · rw [decide_eq_false h0, cond_false, i2 h0]
        · rename_i hc
          exact i3 j y (by have : j ≠ i := fun e => hc ⟨e, by omega⟩; omega) hy
      · dsimp only
        rw [nth_nset, if_neg (fun e => by have := e.1; omega)]
        exact i4 j (by omega))
    (fun f st hst => by
      obtain ⟨w, ys⟩ := st
      have i1 : ys.length = l.length := hst.1
      simp only [l_spec_Crypt_0, s_spec_Crypt_0, i1, dec_nlt, cond_false]) (s := (0, l)) ⟨rfl, fun h => absurd rfl h, fun j x hj => absurd hj (by omega), fun _ _ => rfl⟩ (f := N) (by omega)
  refine h1.trans ?_
  congr 1
  exact cryptL_of h2 fun j x hx => h4 j x (nth_lt hx) hx

theorem spec_Crypt_eq {s : ByteArray} {n : Int} {t : ByteArray} (hN : 2 ^ 40 < N) (k : ByteArray → Option R) : g_spec_Crypt N s n t k = k (crypt s n t) := by
  unfold g_spec_Crypt crypt
  rw [cond_somes, oK_some_eq, Bool.cond_true_left]
  change cond (cryptBad s t) _ _ = _
  cases h : cryptBad s t with
  | true => rfl
  | false =>
    obtain ⟨h1, h2⟩ := Bool.or_eq_false_iff.1 h
    have h1 := longB_size h1
    have h2 := of_decide_eq_false h2
    simp only [cond_false, spec_PutWord_eq]
    rw [putWord_size, ble_t (by omega), cond_true]
    unfold c_spec_Crypt_0
    rw [spec_Crypt_go N h1 (by rw [ofBytes_length]; omega) hN, Nat.zero_add, ble_t (Nat.le_refl _), cond_true, seg_all]

theorem impl_Crypt_in {s : ByteArray} {n : Int} {i L : Nat} {W : Int} (hL : L ≤ 65536) (hi : i ≤ 65536) (kN : List Int → Option R) : ∀ (d j f : Nat) (ys : List Int), j + d = min L (i + 3) → i ≤ j → d < f → ys.length = L →
    ∃ ys', l_impl_Crypt_2 N s n false (i : Int) (L : Int) (i : Int) kN f (sh W (j - i)) (j : Int) ys = kN ys' ∧ ys'.length = L ∧ (∀ p x, j ≤ p → p < i + 3 → nth ys p = some x → nth ys' p = some (xb x (sh W (p - i)))) ∧ ∀ p, p < j ∨ i + 3 ≤ p → nth ys' p = nth ys p := by
  have hw : IntKind.wrap .i64 ((i : Int) + 3) = (i : Int) + 3 := w64 (by omega) (by omega)
  have hb : ∀ j : Nat, decide ((j : Int) < (if (decide ((L : Int) < (i : Int) + 3)) = true then (L : Int) else (i : Int) + 3)) = decide (j < min L (i + 3)) := fun j => by
    refine decide_eq_decide.2 ?_
    by_cases h : (L : Int) < (i : Int) + 3
    · rw [decide_eq_true h, if_pos rfl]; omega
    · rw [decide_eq_false h, if_neg (by simp)]; omega
  intro d
  induction d with
  | zero =>
    intro j f ys hj hij hf hys
    obtain ⟨f, rfl⟩ : ∃ g, f = g + 1 := ⟨f - 1, by omega⟩
    refine ⟨ys, ?_, hys, fun p x h1 h2 h3 => ?_, fun _ _ => rfl⟩
    · simp only [l_impl_Crypt_2, s_impl_Crypt_2, hys, hw, hb, decide_eq_false (show ¬ j < min L (i + 3) by omega), cond_false]
    · have := nth_lt h3; omega
  | succ d ih =>
    intro j f ys hj hij hf hys
    obtain ⟨f, rfl⟩ : ∃ g, f = g + 1 := ⟨f - 1, by omega⟩
    have hjL : j < ys.length := by omega
    obtain ⟨x, hx⟩ := nth_some hjL
    obtain ⟨ys', h1, h2, h3, h4⟩ := ih (j + 1) f (nset ys j (xb x (sh W (j - i)))) (by omega) (by omega) (by omega) (by simpa using hys)
    refine ⟨ys', ?_, h2, fun p y hp1 hp2 hy => ?_, fun p hp => ?_⟩
    · rw [← h1]
      have hjL2 : j < L := by omega
      have hs : sh W (j + 1 - i) = sh W (j - i) / 256 := by rw [show j + 1 - i = (j - i) + 1 by omega]; rfl
      rw [hs]
      simp only [l_impl_Crypt_2, s_impl_Crypt_2, hys, hw, hb, decide_eq_true (show j < min L (i + 3) by omega), dec_lt hjL2, dec_nn, Int.toNat_natCast, elemK_some hx, blt_t hjL2, wrap_next hjL2 (by omega), Bool.and_true, cond_true, fdiv_lit _ (show (0 : Int) ≤ 256 by omega)]
      rfl
    · by_cases hpj : p = j
      · subst hpj
        rw [h4 p (by omega), nth_nset, if_pos ⟨rfl, hjL⟩]
        rw [hx] at hy; cases hy; rfl
      · exact h3 p y (by omega) hp2 (by rw [nth_nset, if_neg (fun e => hpj e.1)]; exact hy)
    · rw [h4 p (by omega), nth_nset, if_neg (fun e => by have := e.1; omega)]

theorem impl_Crypt_go {s : ByteArray} {n : Int} {l : List Int} (hs : s.size ≤ 4096) (hl : l.length ≤ 65536) (hN : 2 ^ 40 < N) (kN : List Int → Option R) :
    ∀ (d i f : Nat) (ys : List Int), i + d = l.length → d < f → ys.length = l.length → (∀ p x, p < 3 * ((i + 2) / 3) → nth l p = some x → nth ys p = some (cryptB s n p x)) → (∀ p, 3 * ((i + 2) / 3) ≤ p → nth ys p = nth l p) → l_impl_Crypt_0 N s n false (l.length : Int) kN f (i : Int) ys = kN (cryptL s n l) := by
  intro d
  induction d with
  | zero =>
    intro i f ys hi hf hys h1 h2
    obtain ⟨f, rfl⟩ : ∃ g, f = g + 1 := ⟨f - 1, by omega⟩
    have : i = l.length := by omega
    subst this
    simp only [l_impl_Crypt_0, s_impl_Crypt_0, dec_nlt, cond_false]
    congr 1
    exact cryptL_of hys fun j x hx => h1 j x (by have := nth_lt hx; omega) hx
  | succ d ih =>
    intro i f ys hi hf hys h1 h2
    obtain ⟨f, rfl⟩ : ∃ g, f = g + 1 := ⟨f - 1, by omega⟩
    have hil : i < l.length := by omega
    have hm : (Int.tmod (i : Int) 3 == 0) = decide (i % 3 = 0) := by
      rw [tmod_nn (by omega), beq_dec]
      exact decide_eq_decide.2 (by omega)
    by_cases h0 : i % 3 = 0
    · have hd : IntKind.wrap .i64 (Int.tdiv (i : Int) 3) = ((i / 3 : Nat) : Int) := by rw [tdiv_nn (by omega), w64 (by omega) (by omega)]; omega
      have hsz : (catB [s, putWord n, putWord ((i / 3 : Nat) : Int)]).size = s.size + 8 := by
        rw [catB_size]; simp only [List.map_cons, List.map_nil, List.sum_cons, List.sum_nil, putWord_size]; omega
      have hcat : catB [s, putWord n, putWord ((i / 3 : Nat) : Int)] = s ++ putWord n ++ putWord ((i / 3 : Nat) : Int) := by
        simp only [catB]; rw [ba_append_empty, ByteArray.append_assoc]
      simp only [l_impl_Crypt_0, s_impl_Crypt_0, dec_lt hil, hm, decide_eq_true h0, cond_true, impl_PutWord_eq, hd]
      rw [impl_yjoinw_eq N (by simp) (by rw [hsz]; omega), impl_ymix_eq N (by rw [hsz]; omega) hN, hcat]
      unfold c_impl_Crypt_2
      obtain ⟨ys', e1, e2, e3, e4⟩ := impl_Crypt_in (R := R) N (s := s) (n := n) (i := i) (L := l.length) (W := cryptW s n (i / 3)) hl (by omega) (fun l2 => l_impl_Crypt_0 N s n false (l.length : Int) kN f (IntKind.wrap .i64 ((i : Int) + 1)) l2) (min l.length (i + 3) - i) i N ys (by omega) (Nat.le_refl _) (by omega) hys
      rw [Nat.sub_self] at e1
      refine Eq.trans e1 ?_
      rw [wrap_next hil (by omega)]
      refine ih (i + 1) f ys' (by omega) (by omega) e2 (fun p x hp hx => ?_) (fun p hp => ?_)
      · by_cases hpi : p < i
        · rw [e4 p (.inl hpi)]; exact h1 p x (by omega) hx
        · have hy : nth ys p = some x := by rw [h2 p (by omega)]; exact hx
          rw [e3 p x (by omega) (by omega) hy]
          unfold cryptB
          rw [show p / 3 = i / 3 by omega, show p % 3 = p - i by omega]
      · rw [e4 p (.inr (by omega))]; exact h2 p (by omega)
    · simp only [l_impl_Crypt_0, s_impl_Crypt_0, dec_lt hil, hm, decide_eq_false h0, cond_true, cond_false, wrap_next hil (show l.length ≤ 2 ^ 62 by omega)]
      refine ih (i + 1) f ys (by omega) (by omega) hys (fun p x hp hx => h1 p x (by omega) hx) (fun p hp => h2 p (by omega))

theorem impl_Crypt_eq {s : ByteArray} {n : Int} {t : ByteArray} (hN : 2 ^ 40 < N) (k : ByteArray → Option R) : g_impl_Crypt N s n t k = k (crypt s n t) := by
  unfold g_impl_Crypt crypt
  rw [longKey_eq N hN, ybig_eq N hN, cond_somes, oK_some_eq, Bool.cond_true_left]
  change cond (cryptBad s t) _ _ = _
  cases h : cryptBad s t with
  | true => rfl
  | false =>
    obtain ⟨h1, h2⟩ := Bool.or_eq_false_iff.1 h
    have h1 := longB_size h1
    have h2 := of_decide_eq_false h2
    simp only [cond_false]
    unfold c_impl_Crypt_0
    have hlen : (ofBytes t).length ≤ 65536 := by rw [ofBytes_length]; omega
    have := impl_Crypt_go (R := R) N (s := s) (n := n) (l := ofBytes t) h1 hlen hN (fun l3 => cond (Nat.ble (0 + l3.length) l3.length) (k (toBytes (seg l3 0 l3.length))) none) (ofBytes t).length 0 N (ofBytes t) (by omega) (by omega) rfl (fun p x hp => absurd hp (by omega)) (fun _ _ => rfl)
    refine this.trans ?_
    rw [Nat.zero_add, ble_t (Nat.le_refl _), cond_true, seg_all]


theorem xb_bound (x c : Int) : 0 ≤ xb x c ∧ xb x c < 256 := by unfold xb; rw [Go.Eng.wu8]; omega

theorem xb_xb {x : Int} (c : Int) (h0 : 0 ≤ x) (h1 : x < 256) : xb (xb x c) c = x := by
  obtain ⟨n, rfl⟩ := Int.eq_ofNat_of_zero_le h0
  have hn : n < 256 := by omega
  unfold xb
  generalize BitVec.ofInt 8 (IntKind.wrap .u8 c) = d
  have e1 : (BitVec.ofInt 8 (n : Int)) = BitVec.ofNat 8 n := by
    apply BitVec.eq_of_toNat_eq
    rw [BitVec.toNat_ofInt, BitVec.toNat_ofNat]
    omega
  have hlt : (BitVec.ofInt 8 (n : Int) ^^^ d).toNat < 256 := (BitVec.ofInt 8 (n : Int) ^^^ d).isLt
  have e2 : IntKind.wrap .u8 (((BitVec.ofInt 8 (n : Int) ^^^ d).toNat : Nat) : Int) = (((BitVec.ofInt 8 (n : Int) ^^^ d).toNat : Nat) : Int) := by rw [Go.Eng.wu8]; omega
  rw [e2]
  have e3 : BitVec.ofInt 8 ((((BitVec.ofInt 8 (n : Int) ^^^ d).toNat : Nat) : Int)) = BitVec.ofInt 8 (n : Int) ^^^ d := by
    apply BitVec.eq_of_toNat_eq
    rw [BitVec.toNat_ofInt]
    omega
  rw [e3, BitVec.xor_assoc, BitVec.xor_self, BitVec.xor_zero, e1, BitVec.toNat_ofNat, Go.Eng.wu8]
  omega

theorem ofBytes_bound {s : ByteArray} {i : Nat} {x : Int} (h : nth (ofBytes s) i = some x) : 0 ≤ x ∧ x < 256 := by
  have hi := nth_lt h
  rw [ofBytes_length] at hi
  rw [nth_ofBytes hi] at h
  cases h
  have := bt_bound s i
  omega

theorem cryptL_bound {s : ByteArray} {n : Int} {l : List Int} : ∀ x ∈ cryptL s n l, 0 ≤ x ∧ x < 256 := by
  intro x hx
  unfold cryptL at hx
  rw [List.mem_map] at hx
  obtain ⟨i, hi, rfl⟩ := hx
  unfold atD
  split
  · exact xb_bound _ _
  · omega

theorem crypt_size {s t : ByteArray} {n : Int} (h : cryptBad s t = false) : (crypt s n t).size = t.size := by
  unfold crypt
  rw [h, cond_false, toBytes_size, cryptL_length, ofBytes_length]

theorem cryptL_cryptL (s : ByteArray) (n : Int) (t : ByteArray) : cryptL s n (cryptL s n (ofBytes t)) = ofBytes t := by
  refine ext_nth fun j => ?_
  rcases Nat.lt_or_ge j (ofBytes t).length with hj | hj
  · obtain ⟨x, hx⟩ := nth_some hj
    obtain ⟨h0, h1⟩ := ofBytes_bound hx
    rw [nth_cryptL (nth_cryptL hx), hx]
    unfold cryptB
    rw [xb_xb _ h0 h1]
  · rw [nth_none (by rw [cryptL_length, cryptL_length]; exact hj), nth_none hj]

theorem crypt_crypt {s t : ByteArray} {n : Int} (h : cryptBad s t = false) : crypt s n (crypt s n t) = t := by
  have hsz := crypt_size (n := n) h
  have h2 : cryptBad s (crypt s n t) = false := by
    unfold cryptBad at h ⊢
    rw [hsz]; exact h
  have e : crypt s n t = toBytes (cryptL s n (ofBytes t)) := by unfold crypt; rw [h, cond_false]
  rw [show crypt s n (crypt s n t) = toBytes (cryptL s n (ofBytes (crypt s n t))) by rw [crypt, h2, cond_false], e, ofBytes_toBytes cryptL_bound, cryptL_cryptL, toBytes_ofBytes]

theorem crypt_cut {s t : ByteArray} {n : Int} {m : Nat} (h : cryptBad s t = false) (hm : m ≤ t.size) : crypt s n (t.extract 0 m) = (crypt s n t).extract 0 m := by
  have hsz := crypt_size (n := n) h
  have hb : cryptBad s (t.extract 0 m) = false := by
    unfold cryptBad at h ⊢
    simp only [Bool.or_eq_false_iff, decide_eq_false_iff_not] at h ⊢
    rw [ByteArray.size_extract]
    exact ⟨h.1, by omega⟩
  have hs2 := crypt_size (n := n) hb
  refine bytes_ext (by rw [hs2, ByteArray.size_extract, ByteArray.size_extract, hsz]) fun i hi => ?_
  rw [hs2, ByteArray.size_extract] at hi
  have e1 : crypt s n (t.extract 0 m) = toBytes (cryptL s n (ofBytes (t.extract 0 m))) := by rw [crypt, hb, cond_false]
  have e2 : crypt s n t = toBytes (cryptL s n (ofBytes t)) := by rw [crypt, h, cond_false]
  have k : ∀ (u : ByteArray), cryptBad s u = false → i < u.size → bt (crypt s n u) i = cryptB s n i (bt u i) := by
    intro u hu hiu
    have h1 : nth (ofBytes (crypt s n u)) i = some (bt (crypt s n u) i) := nth_ofBytes (by rw [crypt_size hu]; exact hiu)
    rw [show crypt s n u = toBytes (cryptL s n (ofBytes u)) by rw [crypt, hu, cond_false], ofBytes_toBytes cryptL_bound, nth_cryptL (nth_ofBytes hiu)] at h1
    rw [show crypt s n u = toBytes (cryptL s n (ofBytes u)) by rw [crypt, hu, cond_false]]
    exact (Option.some.inj h1).symm
  rw [k _ hb (by rw [ByteArray.size_extract]; omega), bt_extract (by omega), bt_extract (by omega), Nat.zero_add, k t h (by omega)]


theorem src_n_shape (n : Int) (b : Bool) (p m z : Int) (l : List Int) : ∃ M : Int, ∀ k : Int → Int → Int → Option R, g_spec_l01Src_n_Wr N n b p m z l k = cond (decide (n ≤ 1)) (k 0 p m)
    (cond (decide (p < (l.length : Int))) (cond (decide (0 ≤ p) && decide (p < (l.length : Int))) (elemK l p.toNat fun x => cond (IntKind.wrap .u64 n == 0) none (k (IntKind.wrap .i64 (Int.tmod (IntKind.wrap .u64 (IntKind.wrap .u64 x + Int.fdiv M 1048576)) (IntKind.wrap .u64 n))) (IntKind.wrap .i64 (p + 1)) M)) none)
      (cond (IntKind.wrap .u64 n == 0) none (k (IntKind.wrap .i64 (Int.tmod (IntKind.wrap .u64 (0 + Int.fdiv M 1048576)) (IntKind.wrap .u64 n))) p M))) := ⟨_, fun _ => rfl⟩

theorem wu64_nn (n : Int) : 0 ≤ IntKind.wrap .u64 n := by
  unfold IntKind.wrap
  have hb : (2 : Int) ^ IntKind.u64.bits = 18446744073709551616 := by decide
  have hs : IntKind.u64.signed = false := rfl
  rw [hb, hs]
  simp only [Bool.false_and]
  rw [if_neg (by decide)]
  omega

/-- A drawn number. -/
theorem src_n {n : Int} {b : Bool} {p m z : Int} {l : List Int} (hn : n ≤ 2 ^ 62) (hl : l.length ≤ 2 ^ 30) (hp : 0 ≤ p ∧ p ≤ 2 ^ 40) :
    ∃ v p' m' : Int, 0 ≤ v ∧ (1 < n → v < n) ∧ (n ≤ 1 → v = 0) ∧ (0 ≤ p' ∧ p' ≤ 2 ^ 40) ∧ ∀ k : Int → Int → Int → Option R, g_spec_l01Src_n_Wr N n b p m z l k = k v p' m' := by
  obtain ⟨M, hM⟩ := src_n_shape (R := R) N n b p m z l
  by_cases h1 : n ≤ 1
  · exact ⟨0, p, m, Int.le_refl 0, fun h => by omega, fun _ => rfl, hp, fun k => by rw [hM, decide_eq_true h1, cond_true]⟩
  have hw : IntKind.wrap .u64 n = n := wu64 (by omega) (by omega)
  have h0 : (IntKind.wrap .u64 n == 0) = false := by rw [hw, beq_dec]; exact decide_eq_false (by omega)
  have key : ∀ X : Int, IntKind.wrap .i64 (Int.tmod (IntKind.wrap .u64 X) (IntKind.wrap .u64 n)) = IntKind.wrap .u64 X % n := by
    intro X
    have := wu64_nn X
    have h2 := Int.emod_nonneg (IntKind.wrap .u64 X) (show n ≠ 0 by omega)
    have h3 := Int.emod_lt_of_pos (IntKind.wrap .u64 X) (show 0 < n by omega)
    rw [hw, tmod_nn this, w64 (by omega) (by omega)]
  have bnd : ∀ X : Int, 0 ≤ IntKind.wrap .u64 X % n ∧ IntKind.wrap .u64 X % n < n := fun X => ⟨Int.emod_nonneg _ (by omega), Int.emod_lt_of_pos _ (by omega)⟩
  by_cases h2 : p < (l.length : Int)
  · obtain ⟨i, rfl⟩ := Int.eq_ofNat_of_zero_le hp.1
    obtain ⟨x, hx⟩ := nth_some (l := l) (n := i) (by omega)
    obtain ⟨b1, b2⟩ := bnd (IntKind.wrap .u64 x + Int.fdiv M 1048576)
    refine ⟨_, ((i + 1 : Nat) : Int), M, b1, fun _ => b2, fun h => by omega, by omega, fun k => ?_⟩
    rw [hM, decide_eq_false h1, cond_false, decide_eq_true h2, cond_true, dec_nn, Bool.and_self, cond_true, Int.toNat_natCast, elemK_some hx, h0, cond_false, key, w64 (n := (i : Int) + 1) (by omega) (by omega)]
    rfl
  · obtain ⟨b1, b2⟩ := bnd (0 + Int.fdiv M 1048576)
    exact ⟨_, p, M, b1, fun _ => b2, fun h => by omega, hp, fun k => by rw [hM, decide_eq_false h1, cond_false, decide_eq_false h2, cond_false, h0, cond_false, key]⟩

theorem src_one {n : Int} {b : Bool} {p m z : Int} {l : List Int} (hn : n ≤ 2 ^ 62) (hl : l.length ≤ 2 ^ 30) (hp : 0 ≤ p ∧ p ≤ 2 ^ 40) :
    ∃ (v : Bool) (p' m' : Int), (0 ≤ p' ∧ p' ≤ 2 ^ 40) ∧ ∀ k : Bool → Int → Int → Option R, g_spec_l01Src_one_Wr N n b p m z l k = k v p' m' := by
  obtain ⟨v, p', m', _, _, _, h, hk⟩ := src_n (R := R) N (b := b) (m := m) (z := z) hn hl hp
  exact ⟨_, p', m', h, fun k => by unfold g_spec_l01Src_one_Wr; rw [hk]⟩

/-- One of so many that are listed. -/
theorem pick_lit {T : Type} {L : List T} {v : Int} (h0 : 0 ≤ v) (h1 : v < (L.length : Int)) : ∃ x, x ∈ L ∧ ∀ K : T → Option R, elemK L v.toNat K = K x := by
  obtain ⟨i, rfl⟩ := Int.eq_ofNat_of_zero_le h0
  obtain ⟨x, hx⟩ := nth_some (l := L) (n := i) (by omega)
  exact ⟨x, nth_mem hx, fun K => by rw [Int.toNat_natCast, elemK_some hx]⟩

theorem in_rng {v n : Int} (h0 : 0 ≤ v) (h1 : v < n) : (decide (0 ≤ v) && decide (v < n)) = true := by rw [decide_eq_true h0, decide_eq_true h1]; rfl

theorem src_go {b1 b2 : Bool} {n1 n3 : Int} {l : List Int} (hl : l.length ≤ 2 ^ 30) : ∀ (d f i : Nat) (m : Int), i + d = l.length → d < f → ∃ m' : Int, ∀ kN : Int → Option R, l_spec_l01Source_r_0 N b1 l b2 n1 n3 kN f (i : Int) m = kN m' := by
  intro d
  induction d with
  | zero =>
    intro f i m hi hf
    obtain ⟨f, rfl⟩ : ∃ j, f = j + 1 := ⟨f - 1, by omega⟩
    refine ⟨m, fun kN => ?_⟩
    rw [l_spec_l01Source_r_0, s_spec_l01Source_r_0, decide_eq_false (show ¬ (i : Int) < (l.length : Int) by omega)]
    rfl
  | succ d ih =>
    intro f i m hi hf
    obtain ⟨f, rfl⟩ : ∃ j, f = j + 1 := ⟨f - 1, by omega⟩
    by_cases h : (i : Int) < 64
    · obtain ⟨x, hx⟩ := nth_some (l := l) (n := i) (by omega)
      have hlt : i < l.length := by omega
      obtain ⟨m', hm⟩ := ih f (i + 1) (IntKind.wrap .u64 ((IntKind.wrap .u64 (((BitVec.toNat ((BitVec.ofInt 64 m) ^^^ (BitVec.ofInt 64 (IntKind.wrap .u64 x)))) : Nat) : Int)) * (1099511628211 : Int))) (by omega) (by omega)
      refine ⟨m', fun kN => ?_⟩
      rw [l_spec_l01Source_r_0, s_spec_l01Source_r_0, dec_lt hlt, cond_true, oK_some_eq, decide_eq_true h, cond_true, dec_nn, Bool.and_self, cond_true, Int.toNat_natCast, elemK_some hx, wrap_next hlt (by omega)]
      exact hm kN
    · refine ⟨m, fun kN => ?_⟩
      rw [l_spec_l01Source_r_0, s_spec_l01Source_r_0, decide_eq_true (show (i : Int) < (l.length : Int) by omega), cond_true, oK_some_eq, decide_eq_false h, cond_false]

/-- A source. -/
theorem src_of {b : Bool} {l : List Int} (hl : l.length ≤ 2 ^ 30) (hN : 2 ^ 40 < N) : ∃ m z : Int, 0 ≤ z ∧ z ≤ 12 ∧ ∀ k : Int → Int → Option R, g_spec_l01Source_r N b l k = k m z := by
  obtain ⟨m, hm⟩ := src_go (R := R) N (b1 := b) (b2 := b) (n1 := 0) (n3 := 0) hl l.length N 0 88172645463325252 (by omega) (by omega)
  by_cases h : (l.length : Int) > 12
  · refine ⟨m, 12, by omega, by omega, fun k => ?_⟩
    unfold g_spec_l01Source_r c_spec_l01Source_r_0
    refine (hm _).trans ?_
    rw [decide_eq_true h, cond_true]
  · refine ⟨m, l.length, by omega, by omega, fun k => ?_⟩
    unfold g_spec_l01Source_r c_spec_l01Source_r_0
    refine (hm _).trans ?_
    rw [decide_eq_false h, cond_false]

theorem src_bytes_go {n4 n8 : Int} {b2 : Bool} {l : List Int} (hl : l.length ≤ 2 ^ 30) : ∀ (d f i : Nat) (p m : Int) (b1 : Bool) (L : List Int), (i : Int) + d = n4 → d < f → (0 ≤ p ∧ p ≤ 2 ^ 40) → L.length = i → i + d ≤ 2 ^ 30 →
    ∃ (b' : Bool) (p' m' : Int) (L' : List Int), (0 ≤ p' ∧ p' ≤ 2 ^ 40) ∧ L'.length = i + d ∧ ∀ kN : Bool → Int → Int → List Int → Option R, l_spec_l01Src_bytes_Wr_0 N n4 b2 n8 l kN f b1 (i : Int) p m L = kN b' p' m' L' := by
  intro d
  induction d with
  | zero =>
    intro f i p m b1 L hi hf hp hL hb
    obtain ⟨f, rfl⟩ : ∃ j, f = j + 1 := ⟨f - 1, by omega⟩
    refine ⟨b1, p, m, L, hp, by omega, fun kN => ?_⟩
    rw [l_spec_l01Src_bytes_Wr_0, s_spec_l01Src_bytes_Wr_0, decide_eq_false (show ¬ (i : Int) < n4 by omega), cond_false]
  | succ d ih =>
    intro f i p m b1 L hi hf hp hL hb
    obtain ⟨f, rfl⟩ : ∃ j, f = j + 1 := ⟨f - 1, by omega⟩
    obtain ⟨v, p1, m1, h0, h1, _, hp1, hv⟩ := src_n (R := R) N (n := 256) (b := b2) (m := m) (z := n8) (by omega) hl hp
    obtain ⟨b', p', m', L', hp', hL', hk⟩ := ih f (i + 1) p1 m1 (cond (Nat.beq 1 0) b1 false) (L ++ [IntKind.wrap .u8 v]) (by omega) (by omega) hp1 (by rw [List.length_append, List.length_singleton, hL]) (by omega)
    refine ⟨b', p', m', L', hp', by omega, fun kN => ?_⟩
    rw [l_spec_l01Src_bytes_Wr_0, s_spec_l01Src_bytes_Wr_0, decide_eq_true (show (i : Int) < n4 by omega), cond_true, hv, List.length_singleton, room (show (L.length + 1) * 1 ≤ 2 ^ 47 by omega) (by omega), cond_true, w64 (n := (i : Int) + 1) (by omega) (by omega)]
    exact hk kN

/-- Drawn bytes. -/
theorem src_bytes {n : Nat} {b : Bool} {p m z : Int} {l : List Int} (hn : n ≤ 2 ^ 30) (hl : l.length ≤ 2 ^ 30) (hp : 0 ≤ p ∧ p ≤ 2 ^ 40) (hN : 2 ^ 40 < N) :
    ∃ (s : ByteArray) (p' m' : Int), s.size = n ∧ (0 ≤ p' ∧ p' ≤ 2 ^ 40) ∧ ∀ k : ByteArray → Int → Int → Option R, g_spec_l01Src_bytes_Wr N (n : Int) b p m z l k = k s p' m' := by
  obtain ⟨b', p', m', L', hp', hL', hk⟩ := src_bytes_go (R := R) N (n4 := (n : Int)) (n8 := z) (b2 := b) hl n N 0 p m false [] (by omega) (by omega) hp rfl (by omega)
  refine ⟨toBytes L', p', m', by rw [toBytes_size]; omega, hp', fun k => ?_⟩
  unfold g_spec_l01Src_bytes_Wr c_spec_l01Src_bytes_Wr_0
  refine (hk _).trans ?_
  rw [Nat.zero_add, ble_t (Nat.le_refl _), cond_true, seg_all]

/-- Drawn zeros. -/
theorem src_zeros {n : Nat} {b : Bool} {p m z : Int} {l : List Int} (hn : n ≤ 2 ^ 30) : ∃ s : ByteArray, s.size = n ∧ ∀ k : ByteArray → Option R, g_spec_l01Src_zeros_Wr N (n : Int) b p m z l k = k s := by
  refine ⟨toBytes (List.replicate n 0), by rw [toBytes_size, List.length_replicate], fun k => ?_⟩
  unfold g_spec_l01Src_zeros_Wr
  rw [dec_self, dec_nn, Int.toNat_natCast, room (by omega) (by omega), Bool.and_self, Bool.and_self, cond_true, Nat.zero_add, ble_t (Nat.le_refl _), cond_true, seg_all]


def chunk (t : ByteArray) (i : Nat) : ByteArray := t.extract (16 * i) (16 * i + 16)

def cd (s t : ByteArray) : Nat → Nat → ByteArray
  | _, 0 => ⟨[].toArray⟩
  | i, d + 1 => crypt s (i : Int) (chunk t i) ++ cd s t (i + 1) d

def cdBad (s t : ByteArray) : Bool := longB s || (decide ((t.size : Int) > 65536) || (Int.tmod (t.size : Int) 16 != 0))

def cdisk (s t : ByteArray) : ByteArray := cond (cdBad s t) ⟨[].toArray⟩ (cd s t 0 (t.size / 16))

theorem cdBad_facts {s t : ByteArray} (h : cdBad s t = false) : longB s = false ∧ t.size ≤ 65536 ∧ t.size % 16 = 0 := by
  unfold cdBad at h
  simp only [Bool.or_eq_false_iff, decide_eq_false_iff_not] at h
  have h2 : Int.tmod (t.size : Int) 16 = 0 := by simpa using h.2.2
  rw [tmod_nn (by omega)] at h2
  exact ⟨h.1, by omega, by omega⟩

theorem chunk_size {t : ByteArray} {i : Nat} (h : 16 * i + 16 ≤ t.size) : (chunk t i).size = 16 := by unfold chunk; rw [ByteArray.size_extract]; omega

theorem chunk_crypt {s t : ByteArray} {i : Nat} (hs : longB s = false) (h : 16 * i + 16 ≤ t.size) (n : Int) : cryptBad s (chunk t i) = false ∧ (crypt s n (chunk t i)).size = 16 := by
  have hc := chunk_size h
  have hb : cryptBad s (chunk t i) = false := by unfold cryptBad; rw [hs, decide_eq_false (by omega)]; rfl
  exact ⟨hb, by rw [crypt_size hb, hc]⟩

theorem spec_cd_go {s t : ByteArray} {m : Nat} (hs : longB s = false) (ht : t.size = 16 * m) (hm : m ≤ 4096) (hN : 2 ^ 40 < N) (kN : ByteArray → Option R) : ∀ (d f i : Nat) (z : ByteArray), i + d = m → d < f → z.size ≤ 2 ^ 20 + 16 * i →
    l_spec_CryptDisk_0 N s t kN f z (i : Int) = kN (z ++ cd s t i d) := by
  intro d
  induction d with
  | zero =>
    intro f i z hi hf hz
    obtain ⟨f, rfl⟩ : ∃ j, f = j + 1 := ⟨f - 1, by omega⟩
    rw [l_spec_CryptDisk_0, s_spec_CryptDisk_0, w64 (by omega) (by omega), decide_eq_false (show ¬ (i : Int) * 16 < (t.size : Int) by omega), cond_false, cd, ba_append_empty]
  | succ d ih =>
    intro f i z hi hf hz
    obtain ⟨f, rfl⟩ : ∃ j, f = j + 1 := ⟨f - 1, by omega⟩
    obtain ⟨hb, hc⟩ := chunk_crypt (i := i) hs (show 16 * i + 16 ≤ t.size by omega) (i : Int)
    have e1 : IntKind.wrap .i64 ((i : Int) * 16) = ((16 * i : Nat) : Int) := by rw [w64 (by omega) (by omega)]; omega
    have e2 : IntKind.wrap .i64 ((i : Int) + 1) = ((i + 1 : Nat) : Int) := by rw [w64 (by omega) (by omega)]; omega
    have e3 : IntKind.wrap .i64 (((i + 1 : Nat) : Int) * 16) = ((16 * i + 16 : Nat) : Int) := by rw [w64 (by omega) (by omega)]; omega
    rw [l_spec_CryptDisk_0, s_spec_CryptDisk_0, e1, e2, e3, decide_eq_true (show ((16 * i : Nat) : Int) < (t.size : Int) by omega), cond_true, rng3 (by omega) (show 16 * i + 16 ≤ t.size by omega), cond_true, Int.toNat_natCast, Int.toNat_natCast, spec_Crypt_eq N hN]
    change cond (Nat.ble (z.size + (crypt s (i : Int) (chunk t i)).size) _) _ _ = _
    rw [hc, ble_t (by omega), cond_true]
    change l_spec_CryptDisk_0 N s t kN f (z ++ crypt s (i : Int) (chunk t i)) _ = _
    rw [ih f (i + 1) _ (by omega) (by omega) (by rw [ByteArray.size_append, hc]; omega), cd, ByteArray.append_assoc]

theorem impl_cd_go {s t : ByteArray} {m : Nat} (hs : longB s = false) (ht : t.size = 16 * m) (hm : m ≤ 4096) (hN : 2 ^ 40 < N) (kN : Bool → List Int → Option R) : ∀ (d f i : Nat) (z : List Int), i + d = m → d < f → z.length ≤ 2 ^ 20 + 16 * i →
    l_impl_CryptDisk_0 N s t kN f ((16 * i : Nat) : Int) false z = kN false (z ++ ofBytes (cd s t i d)) := by
  intro d
  induction d with
  | zero =>
    intro f i z hi hf hz
    obtain ⟨f, rfl⟩ : ∃ j, f = j + 1 := ⟨f - 1, by omega⟩
    rw [l_impl_CryptDisk_0, s_impl_CryptDisk_0, decide_eq_false (show ¬ ((16 * i : Nat) : Int) < (t.size : Int) by omega), cond_false]
    show _ = kN false (z ++ [])
    rw [List.append_nil]
  | succ d ih =>
    intro f i z hi hf hz
    obtain ⟨f, rfl⟩ : ∃ j, f = j + 1 := ⟨f - 1, by omega⟩
    obtain ⟨hb, hc⟩ := chunk_crypt (i := i) hs (show 16 * i + 16 ≤ t.size by omega) (i : Int)
    have e1 : IntKind.wrap .i64 (((16 * i : Nat) : Int) + 16) = ((16 * i + 16 : Nat) : Int) := by rw [w64 (by omega) (by omega)]; omega
    have e2 : IntKind.wrap .i64 (Int.tdiv ((16 * i : Nat) : Int) 16) = (i : Int) := by rw [tdiv_nn (by omega), w64 (by omega) (by omega)]; omega
    rw [l_impl_CryptDisk_0, s_impl_CryptDisk_0, e1, e2, decide_eq_true (show ((16 * i : Nat) : Int) < (t.size : Int) by omega), cond_true, rng3 (by omega) (show 16 * i + 16 ≤ t.size by omega), cond_true, Int.toNat_natCast, Int.toNat_natCast, impl_Crypt_eq N hN]
    change g_strings_Builder_WriteString_Ww_v1 N (crypt s (i : Int) (chunk t i)) false z _ = _
    rw [impl_WriteString_eq N (by omega), cond_same, show 16 * i + 16 = 16 * (i + 1) by omega, ih f (i + 1) _ (by omega) (by omega) (by rw [List.length_append, ofBytes_length, hc]; omega), cd, ofBytes_append, List.append_assoc]

theorem spec_CryptDisk_eq {s t : ByteArray} (hN : 2 ^ 40 < N) (k : ByteArray → Option R) : g_spec_CryptDisk N s t k = k (cdisk s t) := by
  unfold g_spec_CryptDisk cdisk
  have ht : ∀ (a b c : Bool) (K : Bool → Option R), (oK (cond a (some true) (cond b (some true) (some c))) K) = K (a || (b || c)) := fun a b c K => by cases a <;> cases b <;> rfl
  rw [ht]
  change cond (cdBad s t) _ _ = _
  cases hb : cdBad s t with
  | true => rfl
  | false =>
    obtain ⟨h1, h2, h3⟩ := cdBad_facts hb
    rw [cond_false, cond_false]
    unfold c_spec_CryptDisk_0
    refine (spec_cd_go N (s := s) (t := t) (m := t.size / 16) h1 (by omega) (by omega) hN (fun s6 => k s6) (t.size / 16) N 0 ⟨[].toArray⟩ (by omega) (by omega) (by show (0 : Nat) ≤ _; omega)).trans ?_
    rw [ba_empty_append]

theorem impl_CryptDisk_eq {s t : ByteArray} (hN : 2 ^ 40 < N) (k : ByteArray → Option R) : g_impl_CryptDisk N s t k = k (cdisk s t) := by
  unfold g_impl_CryptDisk cdisk
  rw [longKey_eq N hN, ybig_eq N hN]
  have ht : ∀ (a b c : Bool) (K : Bool → Option R), (oK (cond a (some true) (cond b (some true) (some c))) K) = K (a || (b || c)) := fun a b c K => by cases a <;> cases b <;> rfl
  rw [ht]
  change cond (cdBad s t) _ _ = _
  cases hb : cdBad s t with
  | true => rfl
  | false =>
    obtain ⟨h1, h2, h3⟩ := cdBad_facts hb
    rw [cond_false, cond_false]
    obtain ⟨m, hm⟩ : ∃ m, t.size = 16 * m := ⟨t.size / 16, by omega⟩
    have hm2 : t.size / 16 = m := by omega
    rw [hm2]
    obtain ⟨M, rfl⟩ : ∃ M, N = M + 1 := ⟨N - 1, by omega⟩
    unfold c_impl_CryptDisk_0b1
    cases m with
    | zero =>
      rw [l_impl_CryptDisk_0b1, s_impl_CryptDisk_0b1, decide_eq_false (show ¬ (0 : Int) < (t.size : Int) by omega), cond_false]
      rfl
    | succ m =>
      obtain ⟨hb, hc⟩ := chunk_crypt (i := 0) h1 (show 16 * 0 + 16 ≤ t.size by omega) ((0 : Nat) : Int)
      have e1 : IntKind.wrap .i64 ((0 : Int) + 16) = ((16 * 1 : Nat) : Int) := by decide
      have e2 : IntKind.wrap .i64 (Int.tdiv (0 : Int) 16) = ((0 : Nat) : Int) := by decide
      rw [l_impl_CryptDisk_0b1, s_impl_CryptDisk_0b1, e1, e2, decide_eq_true (show (0 : Int) < (t.size : Int) by omega), cond_true]
      have hr : ((decide ((0 : Int) ≤ 0) && decide ((0 : Int) ≤ ((16 * 1 : Nat) : Int))) && decide (((16 * 1 : Nat) : Int) ≤ (t.size : Int))) = true := rng3 (a := 0) (b := 16 * 1) (c := t.size) (by omega) (by omega)
      rw [hr, cond_true, impl_Crypt_eq (M + 1) hN]
      change g_strings_Builder_WriteString_Ww (M + 1) (crypt s ((0 : Nat) : Int) (chunk t 0)) true [] _ = _
      rw [impl_WriteString_eq0 (M + 1) (by rw [hc]; simp), hc]
      change l_impl_CryptDisk_0 (M + 1) s t _ M ((16 * 1 : Nat) : Int) false ([] ++ ofBytes (crypt s ((0 : Nat) : Int) (chunk t 0))) = _
      rw [impl_cd_go (M + 1) h1 hm (by omega) hN _ m M 1 _ (by omega) (by omega) (by rw [List.nil_append, ofBytes_length, hc]; omega)]
      rw [List.nil_append, ← ofBytes_append]
      have hl : (ofBytes (crypt s ((0 : Nat) : Int) (chunk t 0) ++ cd s t 1 m)).length = 16 + (cd s t 1 m).size := by rw [ofBytes_length, ByteArray.size_append, hc]
      have hcs : ∀ (d i : Nat), i + d = m + 1 → (cd s t i d).size = 16 * d := by
        intro d
        induction d with
        | zero => intro i _; rfl
        | succ d ih =>
          intro i hi
          have := (chunk_crypt (i := i) h1 (show 16 * i + 16 ≤ t.size by omega) (i : Int)).2
          rw [cd, ByteArray.size_append, this, ih (i + 1) (by omega)]; omega
      have hc1 := hcs m 1 (by omega)
      rw [cond_false, hl, hc1, blt_t (by omega), ble_t (by omega), Bool.and_self, cond_true, toBytes_ofBytes]
      rfl

theorem cd_size {s t : ByteArray} {m : Nat} (hs : longB s = false) (ht : t.size = 16 * m) : ∀ (d i : Nat), i + d = m → (cd s t i d).size = 16 * d := by
  intro d
  induction d with
  | zero => intro i _; rfl
  | succ d ih =>
    intro i hi
    have := (chunk_crypt (i := i) hs (show 16 * i + 16 ≤ t.size by omega) (i : Int)).2
    rw [cd, ByteArray.size_append, this, ih (i + 1) (by omega)]; omega

theorem cd_chunk {s t : ByteArray} {m : Nat} (hs : longB s = false) (ht : t.size = 16 * m) : ∀ (d i j : Nat), i + d = m → j < d → (cd s t i d).extract (16 * j) (16 * j + 16) = crypt s ((i + j : Nat) : Int) (chunk t (i + j)) := by
  intro d
  induction d with
  | zero => intro i j _ hj; omega
  | succ d ih =>
    intro i j hi hj
    have hc := (chunk_crypt (i := i) hs (show 16 * i + 16 ≤ t.size by omega) (i : Int)).2
    have hz := cd_size hs ht d (i + 1) (by omega)
    rw [cd]
    cases j with
    | zero =>
      rw [Nat.mul_zero, Nat.zero_add]
      exact extract_append_left hc.symm
    | succ j =>
      have h1 := ih (i + 1) j (by omega) (by omega)
      have : (crypt s (i : Int) (chunk t i) ++ cd s t (i + 1) d).extract (16 * (j + 1)) (16 * (j + 1) + 16) = (cd s t (i + 1) d).extract (16 * j) (16 * j + 16) := by
        refine bytes_ext (by rw [ByteArray.size_extract, ByteArray.size_extract, ByteArray.size_append, hc]; omega) fun q hq => ?_
        rw [ByteArray.size_extract, ByteArray.size_append, hc] at hq
        rw [bt_extract (by omega), bt_extract (by omega)]
        have := bt_append_right (s := crypt s (i : Int) (chunk t i)) (t := cd s t (i + 1) d) (16 * j + q)
        rw [hc] at this
        rw [← this]; congr 1; omega
      rw [this, h1, show i + 1 + j = i + (j + 1) by omega]

theorem cd_twice {s t : ByteArray} {m : Nat} (hs : longB s = false) (ht : t.size = 16 * m) : ∀ (d i : Nat), i + d = m → cd s (cd s t 0 m) i d = t.extract (16 * i) (16 * (i + d)) := by
  intro d
  induction d with
  | zero =>
    intro i hi
    refine bytes_ext (by rw [ByteArray.size_extract]; show (0 : Nat) = _; omega) fun q hq => ?_
    exact absurd hq (Nat.not_lt_zero q)
  | succ d ih =>
    intro i hi
    obtain ⟨hb, _⟩ := chunk_crypt (i := i) hs (show 16 * i + 16 ≤ t.size by omega) (i : Int)
    have h1 := cd_chunk hs ht m 0 i (by omega) (by omega)
    rw [Nat.zero_add] at h1
    rw [cd, chunk, h1, crypt_crypt hb, ih (i + 1) (by omega)]
    refine bytes_ext (by rw [ByteArray.size_append, chunk_size (by omega), ByteArray.size_extract, ByteArray.size_extract]; omega) fun q hq => ?_
    rw [ByteArray.size_append, chunk_size (by omega), ByteArray.size_extract] at hq
    rw [bt_extract (by omega)]
    by_cases hq2 : q < 16
    · rw [bt_append_left (by rw [chunk_size (by omega)]; exact hq2), chunk, bt_extract (by omega)]
    · have := bt_append_right (s := chunk t i) (t := t.extract (16 * (i + 1)) (16 * (i + 1 + d))) (q - 16)
      rw [chunk_size (by omega), show 16 + (q - 16) = q by omega] at this
      rw [this, bt_extract (by omega)]; congr 1; omega

theorem cdisk_twice {s t : ByteArray} (h : cdisk s t ≠ ⟨[].toArray⟩) : cdisk s (cdisk s t) = t := by
  cases hb : cdBad s t with
  | true => unfold cdisk at h; rw [hb] at h; exact absurd rfl h
  | false =>
    obtain ⟨h1, h2, h3⟩ := cdBad_facts hb
    have hm : t.size = 16 * (t.size / 16) := by omega
    have hz := cd_size h1 hm (t.size / 16) 0 (by omega)
    have e : cdisk s t = cd s t 0 (t.size / 16) := by unfold cdisk; rw [hb, cond_false]
    have hb2 : cdBad s (cdisk s t) = false := by
      rw [e]
      unfold cdBad at hb ⊢
      rw [hz, ← hm]; exact hb
    have e2 : (cdisk s t).size = t.size := by rw [e, hz]; omega
    rw [show cdisk s (cdisk s t) = cd s (cdisk s t) 0 ((cdisk s t).size / 16) by rw [cdisk, hb2, cond_false], e2, e, cd_twice h1 hm _ 0 (by omega), Nat.mul_zero, Nat.zero_add, ← hm]
    refine bytes_ext (by rw [ByteArray.size_extract]; omega) fun q hq => ?_
    rw [ByteArray.size_extract] at hq
    rw [bt_extract (by omega), Nat.zero_add]


theorem src_key {b : Bool} {p m z : Int} {l : List Int} (hl : l.length ≤ 2 ^ 30) (hp : 0 ≤ p ∧ p ≤ 2 ^ 40) (hN : 2 ^ 40 < N) :
    ∃ (s : ByteArray) (p' m' : Int), s.size ≤ 5000 ∧ (0 ≤ p' ∧ p' ≤ 2 ^ 40) ∧ ∀ k : ByteArray → Int → Int → Option R, g_spec_l01Src_key_Wr N b p m z l k = k s p' m' := by
  obtain ⟨v1, p1, m1, a0, a1, _, hp1, h1⟩ := src_n (R := R) N (n := 8) (b := b) (m := m) (z := z) (by omega) hl hp
  have a2 := a1 (by omega)
  obtain ⟨w1, rfl⟩ := Int.eq_ofNat_of_zero_le a0
  obtain ⟨s, p2, m2, hs, hp2, h2⟩ := src_bytes (R := R) N (n := w1) (b := b) (m := m1) (z := z) (by omega) hl hp1 hN
  obtain ⟨b1, p3, m3, hp3, h3⟩ := src_one (R := R) N (n := 30) (b := b) (m := m2) (z := z) (by omega) hl hp2
  cases b1 with
  | true =>
    obtain ⟨v4, p4, m4, c0, c1, _, hp4, h4⟩ := src_n (R := R) N (n := 3) (b := b) (m := m3) (z := z) (by omega) hl hp3
    have c2 := c1 (by omega)
    obtain ⟨w4, rfl⟩ := Int.eq_ofNat_of_zero_le c0
    have e4 : IntKind.wrap .i64 (4031 + (w4 : Int)) = ((4031 + w4 : Nat) : Int) := by rw [w64 (by omega) (by omega)]; omega
    obtain ⟨s1, hs1, h5⟩ := src_zeros (R := R) N (n := 4031 + w4) (b := b) (p := p4) (m := m4) (z := z) (l := l) (by omega)
    obtain ⟨b2, p6, m6, hp6, h6⟩ := src_one (R := R) N (n := 30) (b := b) (m := m4) (z := z) (by omega) hl hp4
    cases b2 with
    | true =>
      obtain ⟨v7, p7, m7, d0, d1, _, hp7, h7⟩ := src_n (R := R) N (n := 2) (b := b) (m := m6) (z := z) (by omega) hl hp6
      have d2 := d1 (by omega)
      obtain ⟨w7, rfl⟩ := Int.eq_ofNat_of_zero_le d0
      have e7 : IntKind.wrap .i64 (4096 + (w7 : Int)) = ((4096 + w7 : Nat) : Int) := by rw [w64 (by omega) (by omega)]; omega
      obtain ⟨s2, hs2, h8⟩ := src_zeros (R := R) N (n := 4096 + w7) (b := b) (p := p7) (m := m7) (z := z) (l := l) (by omega)
      exact ⟨s2, p7, m7, by omega, hp7, fun k => by unfold g_spec_l01Src_key_Wr; rw [h1, h2, h3, cond_true, h4, e4, h5, h6, cond_true, h7, e7, h8]⟩
    | false => exact ⟨s1, p6, m6, by omega, hp6, fun k => by unfold g_spec_l01Src_key_Wr; rw [h1, h2, h3, cond_true, h4, e4, h5, h6, cond_false]⟩
  | false =>
    obtain ⟨b2, p6, m6, hp6, h6⟩ := src_one (R := R) N (n := 30) (b := b) (m := m3) (z := z) (by omega) hl hp3
    cases b2 with
    | true =>
      obtain ⟨v7, p7, m7, d0, d1, _, hp7, h7⟩ := src_n (R := R) N (n := 2) (b := b) (m := m6) (z := z) (by omega) hl hp6
      have d2 := d1 (by omega)
      obtain ⟨w7, rfl⟩ := Int.eq_ofNat_of_zero_le d0
      have e7 : IntKind.wrap .i64 (4096 + (w7 : Int)) = ((4096 + w7 : Nat) : Int) := by rw [w64 (by omega) (by omega)]; omega
      obtain ⟨s2, hs2, h8⟩ := src_zeros (R := R) N (n := 4096 + w7) (b := b) (p := p7) (m := m7) (z := z) (l := l) (by omega)
      exact ⟨s2, p7, m7, by omega, hp7, fun k => by unfold g_spec_l01Src_key_Wr; rw [h1, h2, h3, cond_false, h6, cond_true, h7, e7, h8]⟩
    | false => exact ⟨s, p6, m6, by omega, hp6, fun k => by unfold g_spec_l01Src_key_Wr; rw [h1, h2, h3, cond_false, h6, cond_false]⟩

theorem src_num {b : Bool} {p m z : Int} {l : List Int} (hl : l.length ≤ 2 ^ 30) (hp : 0 ≤ p ∧ p ≤ 2 ^ 40) :
    ∃ (n p' m' : Int), (0 ≤ p' ∧ p' ≤ 2 ^ 40) ∧ ∀ k : Int → Int → Int → Option R, g_spec_l01Src_num_Wr N b p m z l k = k n p' m' := by
  obtain ⟨b1, p1, m1, hp1, h1⟩ := src_one (R := R) N (n := 3) (b := b) (m := m) (z := z) (by omega) hl hp
  cases b1 with
  | true =>
    obtain ⟨v2, p2, m2, _, _, _, hp2, h2⟩ := src_n (R := R) N (n := 1000) (b := b) (m := m1) (z := z) (by omega) hl hp1
    exact ⟨_, p2, m2, hp2, fun k => by unfold g_spec_l01Src_num_Wr; rw [h1, cond_true, h2]⟩
  | false =>
    obtain ⟨v2, p2, m2, a0, a1, _, hp2, h2⟩ := src_n (R := R) N (n := 15) (b := b) (m := m1) (z := z) (by omega) hl hp1
    have a2 := a1 (by omega)
    obtain ⟨x, _, hk⟩ := pick_lit (R := R) (L := [(0 : Int), (1 : Int), (2 : Int), (255 : Int), (256 : Int), (4095 : Int), (4096 : Int), (65535 : Int), (65536 : Int), (2147483647 : Int), (2147483648 : Int), (4294967295 : Int), (4294967296 : Int), (9223372036854775807 : Int), (-(9223372036854775808 : Int))]) a0 (by simpa using a2)
    obtain ⟨v3, p3, m3, _, _, _, hp3, h3⟩ := src_n (R := R) N (n := 3) (b := b) (m := m2) (z := z) (by omega) hl hp2
    exact ⟨_, p3, m3, hp3, fun k => by unfold g_spec_l01Src_num_Wr; rw [h1, cond_false, h2, in_rng a0 a2, cond_true, hk, h3]⟩


theorem DrawCrypt_ok {b : Bool} {l : List Int} (hl : l.length ≤ 2 ^ 30) (hN : 2 ^ 40 < N) : ∃ (s : ByteArray) (n : Int) (t : ByteArray), s.size ≤ 5000 ∧ t.size ≤ 100 ∧ ∀ k : ByteArray → Int → ByteArray → Option R, g_spec_DrawCrypt_r N b l k = k s n t := by
  obtain ⟨m, z, _, _, h0⟩ := src_of (R := R) N (b := b) hl hN
  obtain ⟨s, p1, m1, hs, hp1, h1⟩ := src_key (R := R) N (b := b) (p := 0) (m := m) (z := z) hl (by omega) hN
  obtain ⟨n, p2, m2, hp2, h2⟩ := src_num (R := R) N (b := b) (m := m1) (z := z) hl hp1
  obtain ⟨v3, p3, m3, a0, a1, _, hp3, h3⟩ := src_n (R := R) N (n := 30) (b := b) (m := m2) (z := z) (by omega) hl hp2
  have a2 := a1 (by omega)
  obtain ⟨w, rfl⟩ := Int.eq_ofNat_of_zero_le a0
  obtain ⟨t, p4, m4, ht, hp4, h4⟩ := src_bytes (R := R) N (n := w) (b := b) (m := m3) (z := z) (by omega) hl hp3 hN
  exact ⟨s, n, t, hs, by omega, fun k => by unfold g_spec_DrawCrypt_r; rw [h0, h1, h2, h3, h4]⟩

theorem DrawCryptDisk_ok {b : Bool} {l : List Int} (hl : l.length ≤ 2 ^ 30) (hN : 2 ^ 40 < N) : ∃ (s t : ByteArray), ∀ k : ByteArray → ByteArray → Option R, g_spec_DrawCryptDisk_r N b l k = k s t := by
  obtain ⟨m, z, _, _, h0⟩ := src_of (R := R) N (b := b) hl hN
  obtain ⟨v1, p1, m1, a0, a1, _, hp1, h1⟩ := src_n (R := R) N (n := 4) (b := b) (p := 0) (m := m) (z := z) (by omega) hl (by omega)
  have a2 := a1 (by omega)
  obtain ⟨w, rfl⟩ := Int.eq_ofNat_of_zero_le a0
  have e : IntKind.wrap .i64 (16 * (w : Int)) = ((16 * w : Nat) : Int) := by rw [w64 (by omega) (by omega)]; omega
  obtain ⟨t, p2, m2, ht, hp2, h2⟩ := src_bytes (R := R) N (n := 16 * w) (b := b) (m := m1) (z := z) (by omega) hl hp1 hN
  obtain ⟨b3, p3, m3, hp3, h3⟩ := src_one (R := R) N (n := 12) (b := b) (m := m2) (z := z) (by omega) hl hp2
  obtain ⟨s, p4, m4, _, _, h4⟩ := src_key (R := R) N (b := b) (m := m3) (z := z) hl hp3 hN
  cases b3 with
  | true => exact ⟨s, t ++ ⟨[(120 : UInt8)].toArray⟩, fun k => by unfold g_spec_DrawCryptDisk_r; rw [h0, h1, e, h2, h3, cond_true, ble_t (by omega), cond_true, oK_some_eq, h4]⟩
  | false => exact ⟨s, t, fun k => by unfold g_spec_DrawCryptDisk_r; rw [h0, h1, e, h2, h3, cond_false, oK_some_eq, h4]⟩

theorem law_Crypted {b : Bool} {l : List Int} (hN : 2 ^ 40 < N) (k : Bool → Option R) : g_laws_FnCrypted_r N b l k = k true := by
  unfold g_laws_FnCrypted_r
  by_cases h : (l.length : Int) > 1048576
  · rw [decide_eq_true h]; rfl
  rw [decide_eq_false h, cond_false]
  have hl : l.length ≤ 2 ^ 30 := by omega
  obtain ⟨s, n, t, hs, ht, hd⟩ := DrawCrypt_ok (R := R) N (b := b) hl hN
  obtain ⟨s7, s8, hd2⟩ := DrawCryptDisk_ok (R := R) N (b := b) hl hN
  rw [hd, impl_Crypt_eq N hN, spec_Crypt_eq N hN, decide_eq_true rfl, Bool.not_true, cond_false, oK_some_eq]
  by_cases h1 : (s.size : Int) > 4096
  · rw [decide_eq_true h1, cond_true, spec_Crypt_eq N hN, decide_eq_true rfl]
  have hlb : longB s = false := by unfold longB; exact decide_eq_false h1
  have hcb : cryptBad s t = false := by unfold cryptBad; rw [hlb, decide_eq_false (by omega)]; rfl
  have hsz := crypt_size (n := n) hcb
  have e : IntKind.wrap .i64 (Int.tdiv (t.size : Int) 2) = ((t.size / 2 : Nat) : Int) := by rw [tdiv_nn (by omega), w64 (by omega) (by omega)]; omega
  rw [decide_eq_false h1, cond_false, impl_Crypt_eq N hN, crypt_crypt hcb, decide_eq_true rfl, Bool.not_true, cond_false, e, dec_nn, decide_eq_true (show ((t.size / 2 : Nat) : Int) ≤ (t.size : Int) by omega), Bool.and_self, cond_true, Int.toNat_natCast, impl_Crypt_eq N hN, hsz, decide_eq_true (show ((t.size / 2 : Nat) : Int) ≤ (t.size : Int) by omega), Bool.and_self, cond_true, crypt_cut hcb (by omega), decide_eq_true rfl, Bool.not_true, oK_some_eq, cond_false, hd2, impl_CryptDisk_eq N hN, spec_CryptDisk_eq N hN, decide_eq_true rfl, cond_true]
  by_cases hq : cdisk s7 s8 = ⟨[].toArray⟩
  · rw [decide_eq_true hq, cond_true, oK_some_eq]
  · rw [decide_eq_false hq, cond_false, impl_CryptDisk_eq N hN, cdisk_twice hq, decide_eq_true rfl, oK_some_eq]

end
end Go.Sa
