import Derived.Test.YtaffhdhamfilpaaW11
set_option linter.all false
namespace Go.Sa
open Go Go.Eng
section
variable {R : Type} (N : Nat)
variable {R : Type}

@[simp] theorem laws_toPortValue_eq (a0 : Int) (a1 : Int) (k : Option R) : g_laws_toPortValue N a0 a1 k = k := rfl

theorem laws_toPortValueS_r_eq {l : List PortValue} {b : Bool} (hl : l.length ≤ 2 ^ 40) (hN : 2 ^ 40 < N) (k : List PortValue → Option R) : g_laws_toPortValueS_r N b l k = k l := by
  unfold g_laws_toPortValueS_r
  rw [Int.toNat_natCast, room (by omega) (by omega), dec_self]
  unfold c_laws_toPortValueS_r_0
  refine (copyl (l_laws_toPortValueS_r_0 N b false l (fun l4 => k l4)) l (fun x => x) k (fun f i ys x hi hy hx => ?_) (fun f ys hy => ?_) (by simp) (by omega)).trans (by rw [List.map_id'])
  · obtain ⟨y, hy1⟩ := nth_some (l := ys) (n := i) (by omega)
    simp only [l_laws_toPortValueS_r_0, s_laws_toPortValueS_r_0, laws_toPortValue_eq, dec_lt hi, dec_nn, Int.toNat_natCast, elemK_some hx, elemK_some hy1, dec_lt (show i < ys.length by omega), blt_t (show i < ys.length by omega), wrap_next hi (by omega), Bool.and_true, cond_true]
  · simp only [l_laws_toPortValueS_r_0, s_laws_toPortValueS_r_0, dec_nlt, cond_false]

theorem laws_eqPortValue_eq (x y : PortValue) (k : Bool → Option R) : g_laws_eqPortValue N x.fPort x.fValue y.fPort y.fValue k = k (decide (x = y)) := by
  unfold g_laws_eqPortValue
  by_cases h0 : x.fPort = y.fPort
  case neg =>
    rw [decide_eq_false (show ¬ x = y from fun e => h0 (by rw [e]))]
    simp only [bne_dec, beq_dec, h0, decide_false, Bool.not_false, cond_true]
  simp only [bne_dec, beq_dec, h0, decide_true, Bool.not_true, cond_false]
  by_cases h1 : x.fValue = y.fValue
  case neg =>
    rw [decide_eq_false (show ¬ x = y from fun e => h1 (by rw [e]))]
    simp only [bne_dec, beq_dec, h1, decide_false, Bool.not_false, cond_true]
  simp only [bne_dec, beq_dec, h1, decide_true, Bool.not_true, cond_false]
  rw [decide_eq_true (show x = y by cases x; cases y; simp_all)]

theorem laws_eqPortValueS_rr_eq {l m : List PortValue} {b b1 : Bool} (hl : l.length ≤ 2 ^ 40) (hN : 2 ^ 40 < N) (k : Bool → Option R) : g_laws_eqPortValueS_rr N b b1 l m k = k (decide (l = m)) := by
  unfold g_laws_eqPortValueS_rr
  by_cases h : l.length = m.length
  · rw [show ((l.length : Int) != (m.length : Int)) = false by simp [h]]
    unfold c_laws_eqPortValueS_rr_0
    refine (eql (l_laws_eqPortValueS_rr_0 N b b1 l m (k false) (k true)) l m h (k false) (k true) (fun f i x y hi hx hy => ?_) (fun f => ?_) (by omega)).trans ?_
    · simp only [l_laws_eqPortValueS_rr_0, s_laws_eqPortValueS_rr_0, dec_lt hi, dec_nn, Int.toNat_natCast, elemK_some hx, elemK_some hy, dec_lt (show i < m.length by omega), laws_eqPortValue_eq, wrap_next hi (by omega), Bool.and_true, cond_true]
    · simp only [l_laws_eqPortValueS_rr_0, s_laws_eqPortValueS_rr_0, dec_nlt, cond_false]
    · cases decide (l = m) <;> rfl
  · rw [show ((l.length : Int) != (m.length : Int)) = true by simp; omega]
    rw [decide_eq_false (fun e => h (by rw [e]))]
    rfl

@[simp] theorem impl_yin_eq (a lo hi : Int) (k : Bool → Option R) : g_impl_yin N a lo hi k = k (decide (a ≥ lo) && decide (a ≤ hi)) := by
  simp [g_impl_yin]

@[simp] theorem impl_yisWord_eq (a : Int) (k : Bool → Option R) : g_impl_yisWord N a k = k (decide (a ≥ 0) && decide (a < 4294967296)) := by
  simp [g_impl_yisWord]

@[simp] theorem spec_l01IsWord_eq (a : Int) (k : Bool → Option R) : g_spec_l01IsWord N a k = k (decide (a ≥ 0) && decide (a < 4294967296)) := by
  simp [g_spec_l01IsWord]

def word (n : Int) : Int := n % 4294967296

def putWord (n : Int) : ByteArray := toBytes [word n % 256, word n / 256 % 256, word n / 65536 % 256, word n / 16777216 % 256]

theorem putWord_size (n : Int) : (putWord n).size = 4 := toBytes_size _

theorem impl_PutWord_eq (n : Int) (k : ByteArray → Option R) : g_impl_PutWord N n k = k (putWord n) := by
  simp only [g_impl_PutWord, Go.Eng.wu8, wu32, fdiv_lit _ (show (0 : Int) ≤ 256 by omega), fdiv_lit _ (show (0 : Int) ≤ 65536 by omega), fdiv_lit _ (show (0 : Int) ≤ 16777216 by omega), seg_all]
  rfl

theorem spec_l01Mod_eq {n m : Int} (hm : 0 < m) (hm2 : m ≤ 2 ^ 62) (k : Int → Option R) : g_spec_l01Mod N n m k = k (n % m) := by
  unfold g_spec_l01Mod
  obtain ⟨h1, h2⟩ := tmod_bound (n := n) hm
  rw [show (m == 0) = false by rw [beq_dec]; exact decide_eq_false (by omega), ← tmod_add (n := n) hm]
  by_cases h : n.tmod m < 0
  · rw [decide_eq_true h, if_pos h, w64 (by omega) (by omega)]; rfl
  · rw [decide_eq_false h, if_neg h]; rfl

theorem impl_ymod_eq {n m : Int} (hm : 0 < m) (hm2 : m ≤ 2 ^ 62) (k : Int → Option R) : g_impl_ymod N n m k = k (n % m) := by
  unfold g_impl_ymod
  obtain ⟨h1, h2⟩ := tmod_bound (n := n) hm
  rw [show (m == 0) = false by rw [beq_dec]; exact decide_eq_false (by omega), ← tmod_add (n := n) hm]
  by_cases h : n.tmod m < 0
  · rw [decide_eq_true h, if_pos h, w64 (by omega) (by omega)]; rfl
  · rw [decide_eq_false h, if_neg h]; rfl

theorem spec_Word_eq (n : Int) (k : Int → Option R) : g_spec_Word N n k = k (word n) := by
  unfold g_spec_Word
  rw [spec_l01Mod_eq N (by omega) (by omega)]
  rfl

theorem spec_PutWord_eq (n : Int) (k : ByteArray → Option R) : g_spec_PutWord N n k = k (putWord n) := by
  simp only [g_spec_PutWord, spec_Word_eq, Go.Eng.wu8, fdiv_lit _ (show (0 : Int) ≤ 256 by omega), fdiv_lit _ (show (0 : Int) ≤ 65536 by omega), fdiv_lit _ (show (0 : Int) ≤ 16777216 by omega), seg_all]
  rfl


/-- A fold over a list, each place going on with another state. -/
theorem foldL {T S : Type} (lp : Nat → Int → S → Option R) (l : List T) (g : S → T → S) (I : Nat → S → Prop) (k : S → Option R)
    (h : ∀ f i s x, i < l.length → nth l i = some x → I i s → lp (f + 1) (i : Int) s = lp f ((i + 1 : Nat) : Int) (g s x) ∧ I (i + 1) (g s x))
    (he : ∀ f s, I l.length s → lp (f + 1) (l.length : Int) s = k s) {s : S} (hs : I 0 s) {f : Nat} (hf : l.length < f) : lp f 0 s = k (l.foldl g s) ∧ I l.length (l.foldl g s) := by
  have := fold lp l.length (fun i s => atD l i (g s) s) I k (fun f i s hi hI => by
    obtain ⟨x, hx⟩ := nth_some hi
    rw [atD_some hx]
    exact h f i s x hi hx hI) he hs hf
  rw [foldl_atD] at this
  exact this

/-- Texts, one behind the other. -/
def catB : List ByteArray → ByteArray
  | [] => ⟨[].toArray⟩
  | x :: l => x ++ catB l

theorem ba_append_empty (x : ByteArray) : x ++ (⟨[].toArray⟩ : ByteArray) = x := by
  apply ByteArray.ext
  simp

theorem ba_empty_append (x : ByteArray) : (⟨[].toArray⟩ : ByteArray) ++ x = x := by
  apply ByteArray.ext
  simp

theorem join_flatten : ∀ xs : List (List UInt8), Lib.join xs [] = xs.flatten
  | [] => rfl
  | x :: r => by
    rw [Lib.join_cons, List.flatten_cons]
    unfold Lib.joinTail
    simp

theorem catB_toList : ∀ l : List ByteArray, (catB l).data.toList = (l.map (·.data.toList)).flatten
  | [] => rfl
  | x :: l => by
    simp only [catB, List.map_cons, List.flatten_cons, ← catB_toList l]
    simp

theorem joinB_cat (l : List ByteArray) : joinB l ⟨[].toArray⟩ = catB l := by
  unfold joinB
  apply ByteArray.ext
  apply Array.ext'
  show Lib.join (l.map (·.data.toList)) [] = _
  rw [join_flatten, catB_toList]

theorem joinOk_cat {l : List ByteArray} (h1 : l.length ≤ 2 ^ 40) (h2 : (catB l).size ≤ 2 ^ 40) : joinOk l ⟨[].toArray⟩ = true := by
  unfold joinOk
  have h3 : (Lib.join (l.map (·.data.toList)) (⟨[].toArray⟩ : ByteArray).data.toList).length = (catB l).size := by
    show (Lib.join (l.map (·.data.toList)) []).length = _
    rw [join_flatten, ← catB_toList]
    rfl
  rw [h3, ble_t (by omega), ble_t (by omega)]
  rfl

theorem catB_size : ∀ l : List ByteArray, (catB l).size = (l.map (·.size)).sum
  | [] => rfl
  | x :: l => by
    simp only [catB, ByteArray.size_append, List.map_cons, List.sum_cons, catB_size l]

theorem tmod_nn {n m : Int} (h : 0 ≤ n) : n.tmod m = n % m := Int.tmod_eq_emod_of_nonneg h

/-- A list's fold that appends to a text. -/
theorem foldl_append {T : Type} (f : T → ByteArray) : ∀ (l : List T) (s : ByteArray), l.foldl (fun s x => s ++ f x) s = s ++ catB (l.map f)
  | [], s => by simp only [List.foldl_nil, List.map_nil, catB, ba_append_empty]
  | x :: l, s => by
    rw [List.foldl_cons, foldl_append f l, List.map_cons]
    simp only [catB, ByteArray.append_assoc]

def memOk (s : ByteArray) : Bool := decide ((s.size : Int) ≥ 256) && (decide ((s.size : Int) ≤ 65536) && (Int.tmod (s.size : Int) 256 == 0))

theorem impl_ymemOk_eq (s : ByteArray) (k : Bool → Option R) : g_impl_ymemOk N s k = k (memOk s) := by
  unfold g_impl_ymemOk memOk
  cases decide ((s.size : Int) ≥ 256) <;> cases decide ((s.size : Int) ≤ 65536) <;> rfl

theorem spec_MemFault_eq (s : ByteArray) (k : Int → Option R) : g_spec_MemFault N s k = k (cond (memOk s) 0 1) := by
  have e : ((s.size : Int) == 0 || (Int.tmod (s.size : Int) 256 != 0 || decide ((s.size : Int) > 65536))) = !memOk s := by
    unfold memOk
    rw [Int.tmod_eq_emod_of_nonneg (by omega), Bool.eq_iff_iff]
    have h0 : (0 : Int) ≤ (s.size : Int) := by omega
    generalize (s.size : Int) = m at h0 ⊢
    simp
    omega
  unfold g_spec_MemFault
  simp only [cond_somes, oK_some_eq, Bool.cond_true_left, e]
  cases memOk s <;> rfl

theorem putWord_congr {a b : Int} (h : word a = word b) : putWord a = putWord b := by unfold putWord; rw [h]

def mixStep (x b : Int) : Int := (x * 65599 + b + 1) % 2147483629

def mixGo (s : ByteArray) (x : Int) : Int := (List.range s.size).foldl (fun x i => mixStep x (bt s i)) x

def mix (s : ByteArray) (n : Int) : Int := (mixGo s (n % 2147483629 + 1) * 40503 + 77) % 2147483629

theorem mix_round {x b : Int} (hx0 : 0 ≤ x) (hx1 : x ≤ 2147483629) (hb0 : 0 ≤ b) (hb1 : b ≤ 255) :
    Int.tmod (IntKind.wrap .i64 (IntKind.wrap .i64 (IntKind.wrap .i64 (x * 65599) + IntKind.wrap .i64 b) + 1)) 2147483629 = mixStep x b := by
  rw [w64 (n := x * 65599) (by omega) (by omega), w64 (n := b) (by omega) (by omega), w64 (n := x * 65599 + b) (by omega) (by omega), w64 (by omega) (by omega), tmod_nn (by omega)]
  rfl

theorem impl_ymix_eq {s : ByteArray} {n : Int} (hs : s.size ≤ 2 ^ 40) (hN : 2 ^ 40 < N) (k : Int → Option R) : g_impl_ymix N s n k = k (mix s n) := by
  unfold g_impl_ymix
  rw [impl_ymod_eq N (by omega) (by omega)]
  have hm : 0 ≤ n % 2147483629 ∧ n % 2147483629 < 2147483629 := by omega
  rw [w64 (n := n % 2147483629 + 1) (by omega) (by omega)]
  unfold c_impl_ymix_0
  obtain ⟨h1, h2, h3⟩ := fold (fun f i x => l_impl_ymix_0 N s s.size (fun n5 => k (Int.tmod (IntKind.wrap .i64 (IntKind.wrap .i64 (n5 * 40503) + 77)) 2147483629)) f x i) s.size (fun i x => mixStep x (bt s i)) (fun _ x => 0 ≤ x ∧ x ≤ 2147483629) (fun n5 => k (Int.tmod (IntKind.wrap .i64 (IntKind.wrap .i64 (n5 * 40503) + 77)) 2147483629)) (fun f i x hi hx => by
      obtain ⟨b1, b2⟩ := bt_bound s i
      simp only [l_impl_ymix_0, s_impl_ymix_0, dec_lt hi, dec_nn, Int.toNat_natCast, wrap_next hi (by omega), Bool.and_true, cond_true, mix_round hx.1 hx.2 b1 b2]
      exact ⟨trivial, by unfold mixStep; omega⟩) (fun f x hx => by
      simp only [l_impl_ymix_0, s_impl_ymix_0, dec_nlt, cond_false]) (s := n % 2147483629 + 1) ⟨by omega, by omega⟩ (f := N) (by omega)
  refine h1.trans ?_
  rw [w64 (n := _ * 40503) (by omega) (by omega), w64 (by omega) (by omega), tmod_nn (by omega)]
  rfl

theorem spec_Mix_eq {s : ByteArray} {n : Int} (hN : 2 ^ 40 < N) (k : Int → Option R) : g_spec_Mix N s n k = k (cond (decide ((s.size : Int) > 65536)) 0 (mix s n)) := by
  unfold g_spec_Mix
  by_cases hs : (s.size : Int) > 65536
  · rw [decide_eq_true hs]; rfl
  rw [decide_eq_false hs, cond_false, cond_false, spec_l01Mod_eq N (by omega) (by omega)]
  have hm : 0 ≤ n % 2147483629 ∧ n % 2147483629 < 2147483629 := by omega
  rw [w64 (n := n % 2147483629 + 1) (by omega) (by omega)]
  unfold c_spec_Mix_0
  obtain ⟨h1, h2, h3⟩ := fold (fun f i x => l_spec_Mix_0 N s (fun n5 => k (Int.tmod (IntKind.wrap .i64 (IntKind.wrap .i64 (n5 * 40503) + 77)) 2147483629)) f x i) s.size (fun i x => mixStep x (bt s i)) (fun _ x => 0 ≤ x ∧ x ≤ 2147483629) (fun n5 => k (Int.tmod (IntKind.wrap .i64 (IntKind.wrap .i64 (n5 * 40503) + 77)) 2147483629)) (fun f i x hi hx => by
      obtain ⟨b1, b2⟩ := bt_bound s i
      simp only [l_spec_Mix_0, s_spec_Mix_0, dec_lt hi, dec_nn, Int.toNat_natCast, wrap_next hi (by omega), Bool.and_true, cond_true, mix_round hx.1 hx.2 b1 b2]
      exact ⟨trivial, by unfold mixStep; omega⟩) (fun f x hx => by
      simp only [l_spec_Mix_0, s_spec_Mix_0, dec_nlt, cond_false]) (s := n % 2147483629 + 1) ⟨by omega, by omega⟩ (f := N) (by omega)
  refine h1.trans ?_
  rw [w64 (n := _ * 40503) (by omega) (by omega), w64 (by omega) (by omega), tmod_nn (by omega)]
  rfl

theorem ofBytes_length (s : ByteArray) : (ofBytes s).length = s.size := by
  unfold ofBytes
  rw [List.length_map, Array.length_toList]
  rfl

theorem nth_ofBytes {s : ByteArray} {i : Nat} (h : i < s.size) : nth (ofBytes s) i = some (bt s i) := by
  have h' : i < s.data.toList.length := by rw [Array.length_toList]; exact h
  unfold ofBytes bt
  rw [nth_eq, List.getElem?_map, List.getElem?_eq_getElem h', List.getD_eq_getElem?_getD, List.getElem?_eq_getElem h']
  rfl

theorem toBytes_ofBytes (s : ByteArray) : toBytes (ofBytes s) = s := by
  obtain ⟨⟨l⟩⟩ := s
  unfold toBytes ofBytes
  simp only [List.map_map]
  have : (l.map ((fun x : Int => UInt8.ofNat x.toNat) ∘ fun c : UInt8 => (c.toNat : Int))) = l := by
    rw [List.map_congr_left (g := id) (fun c _ => by simp), List.map_id]
  rw [this]

theorem ofBytes_append (s t : ByteArray) : ofBytes (s ++ t) = ofBytes s ++ ofBytes t := by
  obtain ⟨⟨a⟩⟩ := s
  obtain ⟨⟨b⟩⟩ := t
  have e : (⟨⟨a⟩⟩ ++ ⟨⟨b⟩⟩ : ByteArray).data = (⟨a⟩ ++ ⟨b⟩ : Array UInt8) := ByteArray.data_append
  unfold ofBytes
  rw [e]
  simp

theorem ofBytes_extract (s : ByteArray) (i j : Nat) : ofBytes (s.extract i j) = ((ofBytes s).take j).drop i := by
  unfold ofBytes
  rw [ByteArray.data_extract, Array.toList_extract, List.extract_eq_drop_take, ← List.map_take, ← List.map_drop, List.drop_take]

theorem ofBytes_toBytes {l : List Int} (h : ∀ x ∈ l, 0 ≤ x ∧ x < 256) : ofBytes (toBytes l) = l := by
  unfold ofBytes toBytes
  simp only [List.map_map]
  rw [List.map_congr_left (g := id) (fun x hx => ?_), List.map_id]
  have := h x hx
  simp
  omega

def regsText (l : List Int) : ByteArray := catB (l.map putWord)

theorem regsText_size (l : List Int) : (regsText l).size = 4 * l.length := by
  unfold regsText
  rw [catB_size, List.map_map]
  induction l with
  | nil => rfl
  | cons x l ih => simp only [List.map_cons, List.sum_cons, List.length_cons, ih, Function.comp, putWord_size]; omega

theorem impl_WriteString_eq {s : ByteArray} {b : Bool} {l : List Int} (h : l.length + s.size ≤ 2 ^ 40) (k : Int → Bool → List Int → Option R) : g_strings_Builder_WriteString_Ww_v1 N s b l k = k (s.size : Int) (cond (Nat.beq s.size 0) b false) (l ++ ofBytes s) := by
  unfold g_strings_Builder_WriteString_Ww_v1
  rw [ofBytes_length, room (by omega) (by omega), cond_true]

theorem impl_WriteString_eq0 {s : ByteArray} {b : Bool} {l : List Int} (h : l.length + s.size ≤ 2 ^ 40) (k : Int → Bool → List Int → Option R) : g_strings_Builder_WriteString_Ww N s b l k = k (s.size : Int) (cond (Nat.beq s.size 0) b false) (l ++ ofBytes s) := by
  unfold g_strings_Builder_WriteString_Ww
  rw [ofBytes_length, room (by omega) (by omega), cond_true]

theorem impl_yjoinw_eq {l : List ByteArray} {b : Bool} (h1 : l.length ≤ 2 ^ 40) (h2 : (catB l).size ≤ 2 ^ 40) (k : ByteArray → Option R) : g_impl_yjoin_w N b l k = k (catB l) := by
  unfold g_impl_yjoin_w
  rw [joinOk_cat h1 h2, cond_true, joinB_cat]

def isW (x : Int) : Bool := decide (x ≥ 0) && decide (x < 4294967296)

theorem spec_l04Words_r_eq {l : List Int} {b : Bool} (hl : l.length ≤ 2 ^ 40) (hN : 2 ^ 40 < N) (k : Bool → Option R) : g_spec_l04Words_r N b (l.length : Int) l k = k (!(l.any fun x => !isW x)) := by
  unfold g_spec_l04Words_r
  rw [bne_self_eq_false, cond_false]
  unfold c_spec_l04Words_r_0
  rw [srch (l_spec_l04Words_r_0 N b l.length l (k false) (k true)) l.length (fun i => atD l i (fun x => !isW x) true) (k false) (k true) (fun f i hi => ?_) (fun f => ?_) (by omega), any_atD]
  · cases l.any (fun x => !isW x) <;> rfl
  · obtain ⟨x, hx⟩ := nth_some hi
    simp only [l_spec_l04Words_r_0, s_spec_l04Words_r_0, dec_lt hi, dec_nn, Int.toNat_natCast, elemK_some hx, wrap_next hi (by omega), Bool.and_true, cond_true, atD_some hx, spec_l01IsWord_eq]
    rfl
  · simp only [l_spec_l04Words_r_0, s_spec_l04Words_r_0, dec_nlt, cond_false]

theorem laws_toInt64S_r_eq {l : List Int} {b : Bool} (hl : l.length ≤ 2 ^ 40) (hN : 2 ^ 40 < N) (k : List Int → Option R) : g_laws_toInt64S_r N b l k = k l := by
  unfold g_laws_toInt64S_r
  rw [Int.toNat_natCast, room (by omega) (by omega), dec_self]
  unfold c_laws_toInt64S_r_0
  refine (copyl (l_laws_toInt64S_r_0 N b false l (fun l4 => k l4)) l (fun x => x) k (fun f i ys x hi hy hx => ?_) (fun f ys hy => ?_) (by simp) (by omega)).trans (by rw [List.map_id'])
  · obtain ⟨y, hy1⟩ := nth_some (l := ys) (n := i) (by omega)
    simp only [l_laws_toInt64S_r_0, s_laws_toInt64S_r_0, dec_lt hi, dec_nn, Int.toNat_natCast, elemK_some hx, elemK_some hy1, dec_lt (show i < ys.length by omega), blt_t (show i < ys.length by omega), wrap_next hi (by omega), Bool.and_true, cond_true]
  · simp only [l_laws_toInt64S_r_0, s_laws_toInt64S_r_0, dec_nlt, cond_false]

def allW (l : List Int) : Bool := !(l.any fun x => !isW x)

def portBad (x : PortValue) : Bool := !(decide (x.fPort ≥ 0) && decide (x.fPort ≤ 2047)) || !isW x.fValue

def portsOk (l : List PortValue) : Bool := decide (l.length ≤ 100) && !(l.any portBad)

theorem indexFunc_words_eq {l : List Int} {b : Bool} (hl : l.length ≤ 2 ^ 40) (hN : 2 ^ 40 < N) (k : Int → Option R) : g_slices_IndexFunc_int64_Fimpl_ywordsOk_1_r N b l k = k (fstAt l.length (fun i => atD l i (fun x => !isW x) true)) := by
  unfold g_slices_IndexFunc_int64_Fimpl_ywordsOk_1_r c_slices_IndexFunc_int64_Fimpl_ywordsOk_1_r_0
  rw [srchI (l_slices_IndexFunc_int64_Fimpl_ywordsOk_1_r_0 N b l.length l (fun n3 => k n3) (k (-1))) l.length (fun i => atD l i (fun x => !isW x) true) (fun n3 => k n3) (k (-1)) (fun f i hi => ?_) (fun f => ?_) (by omega)]
  · unfold fstAt
    split <;> rfl
  · obtain ⟨x, hx⟩ := nth_some hi
    simp only [l_slices_IndexFunc_int64_Fimpl_ywordsOk_1_r_0, s_slices_IndexFunc_int64_Fimpl_ywordsOk_1_r_0, dec_lt hi, dec_nn, Int.toNat_natCast, elemK_some hx, wrap_next hi (by omega), Bool.and_true, cond_true, atD_some hx, g_impl_ywordsOk_1, impl_yisWord_eq]
    rfl
  · simp only [l_slices_IndexFunc_int64_Fimpl_ywordsOk_1_r_0, s_slices_IndexFunc_int64_Fimpl_ywordsOk_1_r_0, dec_nlt, cond_false]

theorem impl_ywordsOk_eq {l : List Int} {b : Bool} {n : Nat} (hl : l.length ≤ 2 ^ 40) (hN : 2 ^ 40 < N) (k : Bool → Option R) : g_impl_ywordsOk_r N b (n : Int) l k = k (decide (l.length = n) && allW l) := by
  unfold g_impl_ywordsOk_r g_slices_ContainsFunc_int64_Fimpl_ywordsOk_1_r
  rw [indexFunc_words_eq N hl hN, fstAt_nonneg, any_atD, beq_dec, show decide ((l.length : Int) = (n : Int)) = decide (l.length = n) from decide_eq_decide.2 (by omega)]
  cases decide (l.length = n) <;> rfl

theorem spec_l04Words_eq {l : List Int} {b : Bool} {n : Nat} (hl : l.length ≤ 2 ^ 40) (hN : 2 ^ 40 < N) (k : Bool → Option R) : g_spec_l04Words_r N b (n : Int) l k = k (decide (l.length = n) && allW l) := by
  by_cases h : l.length = n
  · subst h
    rw [spec_l04Words_r_eq N hl hN, decide_eq_true rfl]; rfl
  · unfold g_spec_l04Words_r
    have : ((l.length : Int) != (n : Int)) = true := by simpa using (show ¬ (l.length : Int) = n by omega)
    rw [this, decide_eq_false h]; rfl

theorem impl_yportsOk_1_eq (x : PortValue) (k : Bool → Option R) : g_impl_yportsOk_1 N x.fPort x.fValue k = k (portBad x) := by
  unfold g_impl_yportsOk_1 portBad isW
  rw [impl_yin_eq, impl_yisWord_eq, cond_somes, oK_some_eq]
  cases (decide (x.fPort ≥ 0) && decide (x.fPort ≤ 2047)) <;> rfl

theorem indexFunc_ports_eq {l : List PortValue} {b : Bool} (hl : l.length ≤ 2 ^ 40) (hN : 2 ^ 40 < N) (k : Int → Option R) : g_slices_IndexFunc_PortValue_Fimpl_yportsOk_1_r N b l k = k (fstAt l.length (fun i => atD l i portBad true)) := by
  unfold g_slices_IndexFunc_PortValue_Fimpl_yportsOk_1_r c_slices_IndexFunc_PortValue_Fimpl_yportsOk_1_r_0
  rw [srchI (l_slices_IndexFunc_PortValue_Fimpl_yportsOk_1_r_0 N b l.length l (fun n3 => k n3) (k (-1))) l.length (fun i => atD l i portBad true) (fun n3 => k n3) (k (-1)) (fun f i hi => ?_) (fun f => ?_) (by omega)]
  · unfold fstAt
    split <;> rfl
  · obtain ⟨x, hx⟩ := nth_some hi
    simp only [l_slices_IndexFunc_PortValue_Fimpl_yportsOk_1_r_0, s_slices_IndexFunc_PortValue_Fimpl_yportsOk_1_r_0, dec_lt hi, dec_nn, Int.toNat_natCast, elemK_some hx, wrap_next hi (by omega), Bool.and_true, cond_true, atD_some hx, impl_yportsOk_1_eq]
  · simp only [l_slices_IndexFunc_PortValue_Fimpl_yportsOk_1_r_0, s_slices_IndexFunc_PortValue_Fimpl_yportsOk_1_r_0, dec_nlt, cond_false]

theorem impl_yportsOk_eq {l : List PortValue} {b : Bool} (hN : 2 ^ 40 < N) (k : Bool → Option R) : g_impl_yportsOk_r N b l k = k (portsOk l) := by
  unfold g_impl_yportsOk_r g_slices_ContainsFunc_PortValue_Fimpl_yportsOk_1_r portsOk
  by_cases h : l.length ≤ 100
  · rw [decide_eq_true h, decide_eq_true (show (l.length : Int) ≤ 100 by omega), cond_true, indexFunc_ports_eq N (by omega) hN, fstAt_nonneg, any_atD]; rfl
  · rw [decide_eq_false h, decide_eq_false (show ¬ (l.length : Int) ≤ 100 by omega)]; rfl

theorem spec_l04Ports_eq {l : List PortValue} {b : Bool} (hN : 2 ^ 40 < N) (k : Bool → Option R) : g_spec_l04Ports_r N b l k = k (portsOk l) := by
  unfold g_spec_l04Ports_r portsOk
  by_cases h : l.length ≤ 100
  · rw [decide_eq_true h, decide_eq_false (show ¬ (l.length : Int) > 100 by omega), cond_false, Bool.true_and]
    unfold c_spec_l04Ports_r_0
    rw [srch (l_spec_l04Ports_r_0 N b l (k false) (k true)) l.length (fun i => atD l i portBad true) (k false) (k true) (fun f i hi => ?_) (fun f => ?_) (by omega), any_atD]
    · cases l.any portBad <;> rfl
    · obtain ⟨x, hx⟩ := nth_some hi
      have hp : cond (decide (x.fPort < 0)) (some true) (cond (decide (x.fPort > 2047)) (some true) (some (!(decide (x.fValue ≥ 0) && decide (x.fValue < 4294967296))))) = some (portBad x) := by
        unfold portBad isW
        have a1 : decide (x.fPort < 0) = !decide (x.fPort ≥ 0) := by rw [← decide_not]; exact decide_eq_decide.2 (by omega)
        have a2 : decide (x.fPort > 2047) = !decide (x.fPort ≤ 2047) := by rw [← decide_not]; exact decide_eq_decide.2 (by omega)
        rw [a1, a2]
        cases decide (x.fPort ≥ 0) <;> cases decide (x.fPort ≤ 2047) <;> rfl
      simp only [l_spec_l04Ports_r_0, s_spec_l04Ports_r_0, dec_lt hi, dec_nn, Int.toNat_natCast, elemK_some hx, wrap_next hi (by omega), Bool.and_true, cond_true, atD_some hx, spec_l01IsWord_eq, hp, oK_some_eq]
    · simp only [l_spec_l04Ports_r_0, s_spec_l04Ports_r_0, dec_nlt, cond_false]
  · rw [decide_eq_false h, decide_eq_true (show (l.length : Int) > 100 by omega)]; rfl

def gi (l : List Int) (i : Nat) : Int := (nth l i).getD 0

theorem gi_some {l : List Int} {i : Nat} (h : i < l.length) : nth l i = some (gi l i) := by
  obtain ⟨x, hx⟩ := nth_some h
  unfold gi; rw [hx]; rfl

def machOk (pc md st cn ln tr : Int) (s : ByteArray) (l l1 l2 : List Int) (l3 l4 : List PortValue) : Bool :=
  memOk s && (isW pc && ((decide (l.length = 16) && allW l) && (!(gi l 0 != 0) && ((decide (l1.length = 12) && allW l1) && ((decide (l2.length = 16) && allW l2) &&
    ((decide (md ≥ 0) && decide (md ≤ 1)) && ((decide (st ≥ 0) && decide (st ≤ 2)) && ((decide (cn ≥ 0) && decide (cn ≤ 1099511627776)) && ((decide (ln ≥ 0) && decide (ln ≤ 127)) && (portsOk l3 && (portsOk l4 && ((decide (tr ≥ 0) && decide (tr ≤ 2147483628)) &&
      (!decide (gi l1 0 ≥ 32) && (!(gi l1 8 != 0) && (!(gi l1 9 != 0) && !(gi l1 11 != 0))))))))))))))))

theorem impl_MachineFault_eq {pc md st cn ln tr : Int} {b b1 b2 b3 b4 : Bool} {s : ByteArray} {l l1 l2 : List Int} {l3 l4 : List PortValue} (h1 : l.length ≤ 2 ^ 40) (h2 : l1.length ≤ 2 ^ 40) (h3 : l2.length ≤ 2 ^ 40) (hN : 2 ^ 40 < N) (k : Int → Option R) :
    g_impl_MachineFault_wwwww N pc b md b1 b2 s st cn ln b3 b4 tr l l1 l2 l3 l4 k = k (cond (machOk pc md st cn ln tr s l l1 l2 l3 l4) 0 1) := by
  unfold g_impl_MachineFault_wwwww machOk
  have w16 : ∀ (b : Bool) (K : Bool → Option Bool), g_impl_ywordsOk_r N b 16 l K = K (decide (l.length = 16) && allW l) := fun b K => impl_ywordsOk_eq N (n := 16) h1 hN K
  have w12 : ∀ (b : Bool) (K : Bool → Option Bool), g_impl_ywordsOk_r N b 12 l1 K = K (decide (l1.length = 12) && allW l1) := fun b K => impl_ywordsOk_eq N (n := 12) h2 hN K
  have w16b : ∀ (b : Bool) (K : Bool → Option Bool), g_impl_ywordsOk_r N b 16 l2 K = K (decide (l2.length = 16) && allW l2) := fun b K => impl_ywordsOk_eq N (n := 16) h3 hN K
  rw [impl_ymemOk_eq]
  cases memOk s with
  | false => rfl
  | true =>
  rw [Bool.not_true, cond_false, Bool.true_and, impl_yisWord_eq]
  have hW : (decide (pc ≥ 0) && decide (pc < 4294967296)) = isW pc := rfl
  rw [hW]
  cases isW pc with
  | false => rfl
  | true =>
  rw [Bool.not_true, cond_false, Bool.true_and, w16]
  by_cases hl : l.length = 16
  · rw [decide_eq_true hl, Bool.true_and]
    cases allW l with
    | false => rfl
    | true =>
    rw [Bool.not_true, cond_false, Bool.true_and, decide_eq_true (show (0 : Int) < (l.length : Int) by omega), cond_true, elemK_some (gi_some (show 0 < l.length by omega))]
    cases (gi l 0 != 0) with
    | true => rfl
    | false =>
    rw [cond_false, Bool.not_false, Bool.true_and, w12]
    by_cases hl1 : l1.length = 12
    · rw [decide_eq_true hl1, Bool.true_and]
      cases allW l1 with
      | false => rfl
      | true =>
      rw [Bool.not_true, cond_false, Bool.true_and, w16b]
      cases (decide (l2.length = 16) && allW l2) with
      | false => rfl
      | true =>
      rw [Bool.not_true, cond_false, Bool.true_and, decide_eq_true (show (0 : Int) < (l1.length : Int) by omega), decide_eq_true (show (8 : Int) < (l1.length : Int) by omega), decide_eq_true (show (9 : Int) < (l1.length : Int) by omega), decide_eq_true (show (11 : Int) < (l1.length : Int) by omega), impl_yin_eq, impl_yin_eq, impl_yin_eq, impl_yin_eq, impl_yin_eq, impl_yportsOk_eq N hN, impl_yportsOk_eq N hN,
        elemK_some (gi_some (show 0 < l1.length by omega)), elemK_some (gi_some (show 8 < l1.length by omega)), elemK_some (gi_some (show 9 < l1.length by omega)), elemK_some (gi_some (show 11 < l1.length by omega))]
      cases (decide (md ≥ 0) && decide (md ≤ 1))
      · rfl
      cases (decide (st ≥ 0) && decide (st ≤ 2))
      · rfl
      cases (decide (cn ≥ 0) && decide (cn ≤ 1099511627776))
      · rfl
      cases (decide (ln ≥ 0) && decide (ln ≤ 127))
      · rfl
      cases portsOk l3
      · rfl
      cases portsOk l4
      · rfl
      cases (decide (tr ≥ 0) && decide (tr ≤ 2147483628))
      · rfl
      cases decide (gi l1 0 ≥ 32)
      rotate_left
      · rfl
      cases (gi l1 8 != 0)
      rotate_left
      · rfl
      cases (gi l1 9 != 0)
      rotate_left
      · rfl
      cases (gi l1 11 != 0) <;> rfl
    · rw [decide_eq_false hl1]; rfl
  · rw [decide_eq_false hl]; rfl

theorem bt_extract {s : ByteArray} {a b i : Nat} (h : a + i < b) : bt (s.extract a b) i = bt s (a + i) := by
  unfold bt
  rw [ByteArray.data_extract, Array.toList_extract, List.extract_eq_drop_take, List.getD_eq_getElem?_getD, List.getD_eq_getElem?_getD, List.getElem?_take_of_lt (by omega), List.getElem?_drop]

theorem bytes_ext {s t : ByteArray} (h : s.size = t.size) (hb : ∀ i, i < s.size → bt s i = bt t i) : s = t := by
  have hs : s.size = s.data.toList.length := by rw [Array.length_toList]; rfl
  have ht : t.size = t.data.toList.length := by rw [Array.length_toList]; rfl
  have : s.data.toList = t.data.toList := by
    apply List.ext_getElem (by omega)
    intro i h1 h2
    have := hb i (by omega)
    unfold bt at this
    rw [List.getD_eq_getElem?_getD, List.getD_eq_getElem?_getD, List.getElem?_eq_getElem h1, List.getElem?_eq_getElem h2] at this
    simp only [Option.getD_some] at this
    exact UInt8.toNat_inj.1 (by omega)
  apply ByteArray.ext
  exact Array.ext' this

theorem foldl_cong {S T : Type} {f g : S → T → S} : ∀ (l : List T) (s : S), (∀ s x, x ∈ l → f s x = g s x) → l.foldl f s = l.foldl g s
  | [], _, _ => rfl
  | x :: l, s, h => by
    rw [List.foldl_cons, List.foldl_cons, h s x (List.mem_cons_self ..)]
    exact foldl_cong l _ fun s y hy => h s y (List.mem_cons_of_mem _ hy)

def zeros (n : Nat) : ByteArray := toBytes (List.replicate n 0)

theorem zeros_size (n : Nat) : (zeros n).size = n := by unfold zeros; rw [toBytes_size, List.length_replicate]

def BL (L : List Int) : Prop := ∀ x ∈ L, 0 ≤ x ∧ x < 256

def orb (x : Int) (k : Nat) : Int := ((x.toNat ||| 2 ^ k : Nat) : Int)

def obit (L : List Int) (f : Nat) : List Int := nset L (f / 8) (orb (gi L (f / 8)) (f % 8))

def hasB (L : List Int) (f : Nat) : Bool := (gi L (f / 8)).toNat.testBit (f % 8)

theorem or_bit : ∀ m : Nat, m < 256 → ∀ k : Nat, k < 8 → (m ||| 2 ^ k) < 256 ∧
    IntKind.wrap .u8 (((BitVec.toNat ((BitVec.ofInt 8 (m : Int)) ||| (BitVec.ofInt 8 (IntKind.wrap .u8 ((1 : Int) * ((2 : Int) ^ (Min.min k 8))))))) : Nat) : Int) = ((m ||| 2 ^ k : Nat) : Int) ∧
    (m.testBit k = false → IntKind.wrap .u8 (((BitVec.toNat ((BitVec.ofInt 8 (m : Int)) ^^^ (BitVec.ofInt 8 (IntKind.wrap .u8 ((1 : Int) * ((2 : Int) ^ (Min.min k 8))))))) : Nat) : Int) = ((m ||| 2 ^ k : Nat) : Int)) ∧
    (m.testBit k = true → (m ||| 2 ^ k) = m) ∧
    (IntKind.wrap .u8 (((BitVec.toNat ((BitVec.ofInt 8 (Int.fdiv (m : Int) ((2 : Int) ^ (Min.min k 8)))) &&& (BitVec.ofInt 8 (1 : Int)))) : Nat) : Int) == (1 : Int)) = m.testBit k := by decide +kernel

theorem gi_bound {L : List Int} (h : BL L) (i : Nat) : 0 ≤ gi L i ∧ gi L i < 256 := by
  by_cases hi : i < L.length
  · exact h _ (nth_mem (gi_some hi))
  · unfold gi
    have : nth L i = none := by
      rw [nth_eq]; exact List.getElem?_eq_none (by omega)
    rw [this]; exact ⟨Int.le_refl _, by decide⟩

theorem bt_toBytes {L : List Int} (h : BL L) {i : Nat} (hi : i < L.length) : bt (toBytes L) i = gi L i := by
  have h1 := nth_ofBytes (s := toBytes L) (i := i) (by rw [toBytes_size]; exact hi)
  rw [ofBytes_toBytes h, gi_some hi] at h1
  exact (Option.some.inj h1).symm

theorem nset_self : ∀ (L : List Int) (i : Nat), nset L i (gi L i) = L
  | [], _ => rfl
  | _ :: _, 0 => rfl
  | a :: L, i + 1 => by
    show a :: nset L i (gi L i) = a :: L
    rw [nset_self L i]

theorem gi_nset : ∀ (L : List Int) (i j : Nat) (x : Int), gi (nset L i x) j = if i = j ∧ i < L.length then x else gi L j
  | [], i, j, x => by simp [nset]
  | a :: L, 0, 0, x => by simp [nset, gi, nth]
  | a :: L, 0, j + 1, x => by simp [nset, gi, nth]
  | a :: L, i + 1, 0, x => by simp [nset, gi, nth]
  | a :: L, i + 1, j + 1, x => by
    have h := gi_nset L i j x
    have e1 : gi (nset (a :: L) (i + 1) x) (j + 1) = gi (nset L i x) j := rfl
    have e2 : gi (a :: L) (j + 1) = gi L j := rfl
    rw [e1, e2, h]
    simp

theorem BL_nset {L : List Int} (h : BL L) (i : Nat) {x : Int} (hx : 0 ≤ x ∧ x < 256) : BL (nset L i x) := by
  intro y hy
  obtain ⟨j, hj⟩ := List.getElem?_of_mem hy
  rw [← nth_eq] at hj
  have hg : gi (nset L i x) j = y := by unfold gi; rw [hj]; rfl
  rw [gi_nset] at hg
  rw [← hg]
  split
  · exact hx
  · exact gi_bound h j

theorem orb_bound {x : Int} (h : 0 ≤ x ∧ x < 256) {k : Nat} (hk : k < 8) : 0 ≤ orb x k ∧ orb x k < 256 := by
  have := (or_bit x.toNat (by omega) k hk).1
  unfold orb; omega

theorem BL_obit {L : List Int} (h : BL L) (f : Nat) : BL (obit L f) := BL_nset h _ (orb_bound (gi_bound h _) (by omega))

theorem obit_length (L : List Int) (f : Nat) : (obit L f).length = L.length := by unfold obit; rw [nset_length]

theorem hasB_obit {L : List Int} (f g : Nat) (hf : f / 8 < L.length) : hasB (obit L f) g = (decide (f = g) || hasB L g) := by
  unfold hasB obit
  rw [gi_nset]
  by_cases h : f / 8 = g / 8
  · rw [if_pos ⟨h, hf⟩, h]
    unfold orb
    rw [Int.toNat_natCast, Nat.testBit_or, Nat.testBit_two_pow]
    rw [show decide (f % 8 = g % 8) = decide (f = g) from decide_eq_decide.2 (by omega), Bool.or_comm]
  · rw [if_neg (fun hh => h hh.1), decide_eq_false (show ¬ f = g by omega), Bool.false_or]

def bstep (p : Nat → Bool) (L : List Int) (i : Nat) : List Int := cond (p i) (obit L i) L

def bset (p : Nat → Bool) (n : Nat) : List Int := (List.range n).foldl (bstep p) (List.replicate ((n + 7) / 8) 0)

theorem bstep_facts {p : Nat → Bool} {L : List Int} (h : BL L) (i : Nat) : BL (bstep p L i) ∧ (bstep p L i).length = L.length := by
  unfold bstep
  cases p i
  · exact ⟨h, rfl⟩
  · exact ⟨BL_obit h i, obit_length L i⟩

theorem BL_zeros (n : Nat) : BL (List.replicate n 0) := fun x hx => by
  rw [List.mem_replicate] at hx
  rw [hx.2]; exact ⟨Int.le_refl _, by decide⟩

theorem bset_go {p : Nat → Bool} {m : Nat} : ∀ (n : Nat), n ≤ m → BL ((List.range n).foldl (bstep p) (List.replicate ((m + 7) / 8) 0)) ∧ ((List.range n).foldl (bstep p) (List.replicate ((m + 7) / 8) 0)).length = (m + 7) / 8 ∧
    ∀ g, hasB ((List.range n).foldl (bstep p) (List.replicate ((m + 7) / 8) 0)) g = (decide (g < n) && p g) := by
  intro n
  induction n with
  | zero =>
    intro _
    refine ⟨BL_zeros _, List.length_replicate, fun g => ?_⟩
    rw [decide_eq_false (by omega), Bool.false_and]
    unfold hasB
    have : gi (List.replicate ((m + 7) / 8) 0) (g / 8) = 0 := by
      unfold gi
      rw [nth_eq, List.getElem?_replicate]
      split <;> rfl
    show (gi (List.replicate ((m + 7) / 8) 0) (g / 8)).toNat.testBit (g % 8) = false
    rw [this]; exact Nat.zero_testBit _
  | succ n ih =>
    intro hn
    obtain ⟨h1, h2, h3⟩ := ih (by omega)
    rw [List.range_succ, List.foldl_append]
    generalize (List.range n).foldl (bstep p) (List.replicate ((m + 7) / 8) 0) = L at h1 h2 h3
    have hb := bstep_facts (p := p) h1 n
    refine ⟨hb.1, by rw [← h2]; exact hb.2, fun g => ?_⟩
    show hasB (bstep p L n) g = _
    unfold bstep
    cases hp : p n with
    | false =>
      rw [cond_false, h3]
      by_cases hg : g = n
      · subst hg; rw [hp, Bool.and_false, Bool.and_false]
      · rw [show decide (g < n) = decide (g < n + 1) from decide_eq_decide.2 (by omega)]
    | true =>
      rw [cond_true, hasB_obit _ _ (by omega), h3]
      by_cases hg : g = n
      · subst hg; rw [hp, decide_eq_true rfl, decide_eq_true (show g < g + 1 by omega)]; rfl
      · rw [decide_eq_false (show ¬ n = g by omega), Bool.false_or, show decide (g < n) = decide (g < n + 1) from decide_eq_decide.2 (by omega)]

theorem bset_facts (p : Nat → Bool) (n : Nat) : BL (bset p n) ∧ (bset p n).length = (n + 7) / 8 ∧ ∀ g, g < n → hasB (bset p n) g = p g := by
  obtain ⟨h1, h2, h3⟩ := bset_go (p := p) (m := n) n (Nat.le_refl _)
  exact ⟨h1, h2, fun g hg => by
    have := h3 g
    rw [decide_eq_true hg, Bool.true_and] at this
    exact this⟩

theorem bset_congr {p q : Nat → Bool} {n : Nat} (h : ∀ i, i < n → p i = q i) : bset p n = bset q n := by
  unfold bset
  refine foldl_cong _ _ fun s x hx => ?_
  unfold bstep
  rw [h x (List.mem_range.1 hx)]

theorem ix8 {f : Nat} (hf : f < 2 ^ 40) : IntKind.wrap .i64 (Int.tdiv (f : Int) 8) = ((f / 8 : Nat) : Int) ∧ Int.tmod (f : Int) 8 = ((f % 8 : Nat) : Int) ∧ IntKind.wrap .u64 (((f % 8 : Nat) : Int)) = ((f % 8 : Nat) : Int) := by
  refine ⟨?_, by rw [tmod_nn (by omega)]; omega, ?_⟩
  · rw [Int.tdiv_eq_ediv_of_nonneg (by omega), w64 (by omega) (by omega)]; omega
  · have : f % 8 < 8 := by omega
    unfold IntKind.wrap
    have hb : (2 : Int) ^ IntKind.u64.bits = 18446744073709551616 := by decide
    have hs : IntKind.u64.signed = false := rfl
    simp only [hb, hs]
    simp; omega

theorem spec_HasBit_eq {L : List Int} {f : Nat} (h : BL L) (hf : f / 8 < L.length) (hf2 : f < 2 ^ 30) (hL : L.length ≤ 65536) (k : Bool → Option R) : g_spec_HasBit N (toBytes L) (f : Int) k = k (hasB L f) := by
  obtain ⟨e1, e2, e3⟩ := ix8 (f := f) (by omega)
  unfold g_spec_HasBit
  have hz := toBytes_size L
  have hb := gi_bound h (f / 8)
  obtain ⟨m, hm⟩ := Int.eq_ofNat_of_zero_le hb.1
  have := (or_bit m (by omega) (f % 8) (by omega)).2.2.2.2
  rw [hz, e1, e2, e3, decide_eq_true (show (L.length : Int) ≤ 65536 by omega), cond_true, decide_eq_true (show (f : Int) ≥ 0 by omega), cond_true, decide_eq_true (show ((f / 8 : Nat) : Int) < (L.length : Int) by omega), cond_true, dec_nn, Bool.and_self, cond_true, decide_eq_false (show ¬ ((f % 8 : Nat) : Int) < 0 by omega), cond_false, oK_some_eq, Int.toNat_natCast, Int.toNat_natCast, bt_toBytes h hf, hm]
  unfold hasB
  rw [hm, Int.toNat_natCast, this]

theorem impl_yhasBit_eq {L : List Int} {f : Nat} (h : BL L) (hf : f / 8 < L.length) (hf2 : f < 2 ^ 30) (hL : L.length ≤ 65536) (k : Bool → Option R) : g_impl_yhasBit N (toBytes L) (f : Int) k = k (hasB L f) := by
  obtain ⟨e1, e2, e3⟩ := ix8 (f := f) (by omega)
  unfold g_impl_yhasBit
  have hz := toBytes_size L
  have hb := gi_bound h (f / 8)
  obtain ⟨m, hm⟩ := Int.eq_ofNat_of_zero_le hb.1
  have := (or_bit m (by omega) (f % 8) (by omega)).2.2.2.2
  rw [hz, e1, e2, decide_eq_true (show (f : Int) ≥ 0 by omega), cond_true, decide_eq_true (show ((f / 8 : Nat) : Int) < (L.length : Int) by omega), cond_true, dec_nn, Bool.and_self, cond_true, decide_eq_false (show ¬ ((f % 8 : Nat) : Int) < 0 by omega), cond_false, oK_some_eq, Int.toNat_natCast, Int.toNat_natCast, bt_toBytes h hf, hm]
  unfold hasB
  rw [hm, Int.toNat_natCast, this]

theorem spec_PutBit_eq {L : List Int} {f : Nat} (h : BL L) (hf : f / 8 < L.length) (hf2 : f < 524288) (hL : L.length ≤ 65536) (hN : 2 ^ 40 < N) (k : ByteArray → Option R) : g_spec_PutBit N (toBytes L) (f : Int) true k = k (toBytes (obit L f)) := by
  obtain ⟨e1, e2, e3⟩ := ix8 (f := f) (by omega)
  have hz := toBytes_size L
  have hb := gi_bound h (f / 8)
  obtain ⟨m, hm⟩ := Int.eq_ofNat_of_zero_le hb.1
  obtain ⟨q1, q2, q3, q4, q5⟩ := or_bit m (by omega) (f % 8) (by omega)
  obtain ⟨M, rfl⟩ : ∃ M, N = M + 1 := ⟨N - 1, by omega⟩
  have hloop : ∀ kN : Bool → List Int → Option R, c_spec_PutBit_0 (M + 1) (toBytes L) (f : Int) true false (ofBytes (toBytes L)) kN = kN false L := fun kN => by
    unfold c_spec_PutBit_0
    rw [l_spec_PutBit_0, s_spec_PutBit_0, ofBytes_toBytes h, e1, decide_eq_false (show ¬ (L.length : Int) ≤ ((f / 8 : Nat) : Int) by omega), cond_false]
  have hob : obit L f = nset L (f / 8) ((m ||| 2 ^ (f % 8) : Nat) : Int) := by
    unfold obit orb
    rw [hm, Int.toNat_natCast]
  have hhb : hasB L f = m.testBit (f % 8) := by unfold hasB; rw [hm, Int.toNat_natCast]
  unfold g_spec_PutBit
  rw [hz, decide_eq_false (show ¬ (L.length : Int) > 65536 by omega), cond_false, decide_eq_false (show ¬ (f : Int) < 0 by omega), cond_false, oK_some_eq, decide_eq_false (show ¬ (f : Int) ≥ 524288 by omega), cond_false]
  refine (hloop _).trans ?_
  rw [spec_HasBit_eq (M + 1) h hf (by omega) hL, hhb]
  cases hbit : m.testBit (f % 8) with
  | true =>
    have : obit L f = L := by rw [hob, q4 hbit, ← hm, nset_self]
    rw [this, beq_self_eq_true, Bool.not_true, cond_false, Nat.zero_add, ble_t (Nat.le_refl _), cond_true, seg_all]
  | false =>
    have hne : (!(false == true)) = true := rfl
    rw [hne, cond_true, e1, e2, e3, dec_nn, decide_eq_true (show ((f / 8 : Nat) : Int) < (L.length : Int) by omega), Bool.and_self, cond_true, Int.toNat_natCast, Int.toNat_natCast, elemK_some (gi_some hf), decide_eq_false (show ¬ ((f % 8 : Nat) : Int) < 0 by omega), cond_false, cond_true, elemK_some (gi_some hf), blt_t hf, cond_true, hm, q3 hbit, ← hob, Nat.zero_add, ble_t (Nat.le_refl _), cond_true, seg_all]


def frame (s : ByteArray) (f : Nat) : ByteArray := s.extract (f * 256) (f * 256 + 256)

theorem frame_size {s : ByteArray} {f : Nat} (h : f * 256 + 256 ≤ s.size) : (frame s f).size = 256 := by
  unfold frame; rw [ByteArray.size_extract]; omega

def frZ (s : ByteArray) (f : Nat) : Bool := decide (frame s f = zeros 256)

theorem bt_zeros (n i : Nat) : bt (zeros n) i = 0 := by
  unfold bt zeros toBytes
  simp only [List.map_replicate]
  rw [List.getD_eq_getElem?_getD, List.getElem?_replicate]
  split <;> rfl

theorem frZ_eq {s : ByteArray} {f : Nat} (h : f * 256 + 256 ≤ s.size) : ((List.range' (f * 256) 256).all fun j => bt s j == 0) = frZ s f := by
  unfold frZ
  rw [Bool.eq_iff_iff, List.all_eq_true, decide_eq_true_eq]
  constructor
  · intro hh
    refine bytes_ext (by rw [frame_size h, zeros_size]) fun i hi => ?_
    rw [frame_size h] at hi
    unfold frame
    have hlt : f * 256 + i < f * 256 + 256 := Nat.add_lt_add_left hi _
    rw [bt_extract hlt, bt_zeros]
    have := hh (f * 256 + i) (List.mem_range'_1.2 ⟨Nat.le_add_right _ _, hlt⟩)
    simpa using this
  · intro hh j hj
    obtain ⟨j1, j2⟩ := List.mem_range'_1.1 hj
    obtain ⟨i, rfl⟩ := Nat.exists_eq_add_of_le j1
    have := bt_extract (s := s) (a := f * 256) (b := f * 256 + 256) (i := i) j2
    unfold frame at hh
    rw [← this, hh, bt_zeros]; rfl

theorem yzero_go {s : ByteArray} {f : Nat} (h : f * 256 + 256 ≤ s.size) (hs : s.size ≤ 2 ^ 40) (kR kN : Option R) : ∀ (d fu i : Nat), i + d = f * 256 + 256 → d < fu → l_impl_yzeroFrame_0 N s (f : Int) kR kN fu (i : Int) = cond ((List.range' i d).all fun j => bt s j == 0) kN kR := by
  intro d
  have e : IntKind.wrap .i64 (IntKind.wrap .i64 ((f : Int) + 1) * 256) = ((f * 256 + 256 : Nat) : Int) := by rw [w64 (n := (f : Int) + 1) (by omega) (by omega), w64 (by omega) (by omega)]; omega
  induction d with
  | zero =>
    intro fu i hi hf
    obtain ⟨fu, rfl⟩ : ∃ j, fu = j + 1 := ⟨fu - 1, by omega⟩
    rw [l_impl_yzeroFrame_0, s_impl_yzeroFrame_0, e, decide_eq_false (by omega), cond_false]; rfl
  | succ d ih =>
    intro fu i hi hf
    obtain ⟨fu, rfl⟩ : ∃ j, fu = j + 1 := ⟨fu - 1, by omega⟩
    have e1 : IntKind.wrap .i64 ((i : Int) + 1) = ((i + 1 : Nat) : Int) := by rw [w64 (by omega) (by omega)]; omega
    rw [l_impl_yzeroFrame_0, s_impl_yzeroFrame_0, e, decide_eq_true (show (i : Int) < ((f * 256 + 256 : Nat) : Int) by omega), cond_true, dec_nn, decide_eq_true (show (i : Int) < (s.size : Int) by omega), Bool.and_self, cond_true, Int.toNat_natCast, e1, ih fu (i + 1) (by omega) (by omega), List.range'_succ, List.all_cons]
    by_cases hb : bt s i = 0
    · rw [hb]; rfl
    · have h1 : (bt s i != 0) = true := by simpa using hb
      have h2 : (bt s i == 0) = false := by simpa using hb
      rw [h1, h2]; rfl

theorem impl_yzeroFrame_eq {s : ByteArray} {f : Nat} (h : f * 256 + 256 ≤ s.size) (hs : s.size ≤ 2 ^ 40) (hN : 2 ^ 40 < N) (k : Bool → Option R) : g_impl_yzeroFrame N s (f : Int) k = k (frZ s f) := by
  unfold g_impl_yzeroFrame c_impl_yzeroFrame_0
  have e : IntKind.wrap .i64 ((f : Int) * 256) = ((f * 256 : Nat) : Int) := by rw [w64 (by omega) (by omega)]; omega
  rw [e, yzero_go N h hs _ _ 256 N (f * 256) (by omega) (by omega), frZ_eq h]
  cases frZ s f <;> rfl

theorem spec_l06Frame_eq2 {s : ByteArray} {f : Nat} (hf : f * 256 + 256 ≤ s.size) (hs : s.size ≤ 2 ^ 40) (k : ByteArray → Option R) : g_spec_l06Frame N s (f : Int) k = k (frame s f) := by
  unfold g_spec_l06Frame frame
  rw [w64 (n := (f : Int) * 256) (by omega) (by omega), w64 (n := (f : Int) + 1) (by omega) (by omega), w64 (by omega) (by omega), decide_eq_true (by omega), decide_eq_true (by omega), decide_eq_true (by omega)]
  rw [show ((f : Int) * 256).toNat = f * 256 by omega, show (((f : Int) + 1) * 256).toNat = f * 256 + 256 by omega]
  rfl

theorem zeros_def (n : Nat) : toBytes (seg (List.replicate n (0 : Int)) 0 (List.replicate n (0 : Int)).length) = zeros n := by rw [seg_all]; rfl

theorem zeros_256 : toBytes (seg (List.replicate 256 (0 : Int)) 0 256) = zeros 256 := by
  have := zeros_def 256
  rw [List.length_replicate] at this
  exact this

theorem set_start (n : Nat) (hn : n ≤ 256) : IntKind.wrap .i64 (Int.tdiv (IntKind.wrap .i64 ((n : Int) + 7)) 8) = (((n + 7) / 8 : Nat) : Int) := by
  rw [w64 (n := (n : Int) + 7) (by omega) (by omega), Int.tdiv_eq_ediv_of_nonneg (by omega), w64 (by omega) (by omega)]; omega

theorem spec_l20Set_eq {a b : ByteArray} {n : Nat} (ha : a.size = n * 256) (hb : b.size = n * 256) (hn : n ≤ 256) (hN : 2 ^ 40 < N) (k : ByteArray → Option R) : g_spec_l20Set N a b k = k (toBytes (bset (fun i => !decide (frame a i = frame b i)) n)) := by
  unfold g_spec_l20Set g_spec_l20Frames
  have e0 : IntKind.wrap .i64 (Int.tdiv (a.size : Int) 256) = (n : Int) := by rw [ha, Int.tdiv_eq_ediv_of_nonneg (by omega), w64 (by omega) (by omega)]; omega
  rw [e0]
  dsimp only
  rw [set_start n hn, dec_self, dec_nn, Int.toNat_natCast, room (by omega) (by omega), Bool.and_self, Bool.and_self, cond_true, Nat.zero_add, ble_t (Nat.le_refl _), cond_true, seg_all]
  unfold c_spec_l20Set_0
  obtain ⟨h1, _⟩ := fold (fun f i L => l_spec_l20Set_0 N a b (n : Int) (fun s8 => k s8) f (toBytes L) i) n (fun i L => bstep (fun i => !decide (frame a i = frame b i)) L i) (fun _ L => BL L ∧ L.length = (n + 7) / 8) (fun L => k (toBytes L)) (fun f i L hi hL => by
      obtain ⟨q1, q2⟩ := hL
      have hst := bstep_facts (p := fun i => !decide (frame a i = frame b i)) q1 i
      refine ⟨?_, hst.1, by rw [hst.2, q2]⟩
      have hw : IntKind.wrap .i64 ((i : Int) + 1) = ((i + 1 : Nat) : Int) := by rw [w64 (by omega) (by omega)]; omega
      show l_spec_l20Set_0 N a b (n : Int) (fun s8 => k s8) (f + 1) (toBytes L) (i : Int) = _
      rw [l_spec_l20Set_0, s_spec_l20Set_0, decide_eq_true (show (i : Int) < (n : Int) by omega), cond_true, spec_l06Frame_eq2 N (by omega) (by omega), spec_l06Frame_eq2 N (by omega) (by omega), hw]
      unfold bstep
      dsimp only
      cases hd : decide (frame a i = frame b i) with
      | true => rw [Bool.not_true, cond_false, oK_some_eq, cond_false]
      | false => rw [Bool.not_false, cond_true, spec_PutBit_eq N q1 (by omega) (by omega) (by omega) hN, oK_some_eq, cond_true]) (fun f L _ => by
      show l_spec_l20Set_0 N a b (n : Int) (fun s8 => k s8) (f + 1) (toBytes L) (n : Int) = _
      rw [l_spec_l20Set_0, s_spec_l20Set_0, decide_eq_false (by omega), cond_false]) (s := List.replicate ((n + 7) / 8) 0) ⟨BL_zeros _, List.length_replicate⟩ (f := N) (by omega)
  exact h1

theorem impl_set_step {L : List Int} {i : Nat} (h : BL L) (hi : i / 8 < L.length) (hi2 : i < 2 ^ 30) (K : List Int → Option R) :
    (cond ((decide ((0 : Int) ≤ (IntKind.wrap .i64 (Int.tdiv (i : Int) (8 : Int))))) && (decide ((IntKind.wrap .i64 (Int.tdiv (i : Int) (8 : Int))) < (L.length : Int))))
      (elemK L (Int.toNat (IntKind.wrap .i64 (Int.tdiv (i : Int) (8 : Int)))) fun x =>
        (cond (decide ((Int.tmod (i : Int) (8 : Int)) < (0 : Int)))
        none
        (cond ((decide ((0 : Int) ≤ (IntKind.wrap .i64 (Int.tdiv (i : Int) (8 : Int))))) && (decide ((IntKind.wrap .i64 (Int.tdiv (i : Int) (8 : Int))) < (L.length : Int))))
          (elemK L (Int.toNat (IntKind.wrap .i64 (Int.tdiv (i : Int) (8 : Int)))) fun _ =>
            (cond (Nat.blt (Int.toNat (IntKind.wrap .i64 (Int.tdiv (i : Int) (8 : Int)))) (List.length L))
            (K (nset L (Int.toNat (IntKind.wrap .i64 (Int.tdiv (i : Int) (8 : Int)))) (IntKind.wrap .u8 (((BitVec.toNat ((BitVec.ofInt 8 x) ||| (BitVec.ofInt 8 (IntKind.wrap .u8 ((1 : Int) * ((2 : Int) ^ (Min.min (Int.toNat (Int.tmod (i : Int) (8 : Int))) 8))))))) : Nat) : Int))))
            none))
          none)))
      none) = K (obit L i) := by
  obtain ⟨e1, e2, e3⟩ := ix8 (f := i) (by omega)
  have hb := gi_bound h (i / 8)
  obtain ⟨m, hm⟩ := Int.eq_ofNat_of_zero_le hb.1
  obtain ⟨q1, q2, q3, q4, q5⟩ := or_bit m (by omega) (i % 8) (by omega)
  have hob : obit L i = nset L (i / 8) ((m ||| 2 ^ (i % 8) : Nat) : Int) := by
    unfold obit orb
    rw [hm, Int.toNat_natCast]
  rw [e1, e2, dec_nn, decide_eq_true (show ((i / 8 : Nat) : Int) < (L.length : Int) by omega), Bool.and_self, cond_true, Int.toNat_natCast, Int.toNat_natCast, elemK_some (gi_some hi), decide_eq_false (show ¬ ((i % 8 : Nat) : Int) < 0 by omega), cond_false, cond_true, elemK_some (gi_some hi), blt_t hi, cond_true, hm, q2, hob]

theorem impl_frameSet_eq {s : ByteArray} {n : Nat} {n1 n2 n3 n4 n5 n6 : Int} {b b1 b2 b3 b4 : Bool} {l l1 l2 : List Int} {l3 l4 : List PortValue} (hs : s.size = n * 256) (hn : n ≤ 256) (hN : 2 ^ 40 < N) (k : ByteArray → Option R) :
    g_impl_yframeSet_Fimpl_PackMachine_2_Wwwwww N (n : Int) n1 b n2 b1 b2 s n3 n4 n5 b3 b4 n6 l l1 l2 l3 l4 k = k (toBytes (bset (fun i => !frZ s i) n)) := by
  unfold g_impl_yframeSet_Fimpl_PackMachine_2_Wwwwww
  rw [set_start n hn, dec_self, dec_nn, Int.toNat_natCast, room (by omega) (by omega), Bool.and_self, Bool.and_self, cond_true]
  unfold c_impl_yframeSet_Fimpl_PackMachine_2_Wwwwww_0
  obtain ⟨h1, h2⟩ := fold (fun f i L => l_impl_yframeSet_Fimpl_PackMachine_2_Wwwwww_0 N false (n : Int) n1 b n2 b1 b2 s n3 n4 n5 b3 b4 n6 l l1 l2 l3 l4 (fun l11 => (cond (Nat.ble (0 + (List.length l11)) (List.length l11)) (k (toBytes (seg l11 0 (List.length l11)))) none)) f i L) n (fun i L => bstep (fun i => !frZ s i) L i) (fun _ L => BL L ∧ L.length = (n + 7) / 8) (fun L => k (toBytes L)) (fun f i L hi hL => by
      obtain ⟨q1, q2⟩ := hL
      have hst := bstep_facts (p := fun i => !frZ s i) q1 i
      refine ⟨?_, hst.1, by rw [hst.2, q2]⟩
      have hw : IntKind.wrap .i64 ((i : Int) + 1) = ((i + 1 : Nat) : Int) := by rw [w64 (by omega) (by omega)]; omega
      rw [l_impl_yframeSet_Fimpl_PackMachine_2_Wwwwww_0, s_impl_yframeSet_Fimpl_PackMachine_2_Wwwwww_0, decide_eq_true (show (i : Int) < (n : Int) by omega), cond_true, g_impl_PackMachine_2_Wwwwww, impl_yzeroFrame_eq N (by omega) (by omega) hN, hw]
      cases hd : frZ s i with
      | true =>
        have hb : bstep (fun i => !frZ s i) L i = L := by unfold bstep; dsimp only; rw [hd]; rfl
        rw [Bool.not_true, cond_false, hb]
      | false =>
        have hb : bstep (fun i => !frZ s i) L i = obit L i := by unfold bstep; dsimp only; rw [hd]; rfl
        rw [Bool.not_false, cond_true, hb]
        exact impl_set_step q1 (by omega) (by omega) (fun M => l_impl_yframeSet_Fimpl_PackMachine_2_Wwwwww_0 N false (n : Int) n1 b n2 b1 b2 s n3 n4 n5 b3 b4 n6 l l1 l2 l3 l4 _ f ((i + 1 : Nat) : Int) M)) (fun f L _ => by
      rw [l_impl_yframeSet_Fimpl_PackMachine_2_Wwwwww_0, s_impl_yframeSet_Fimpl_PackMachine_2_Wwwwww_0, decide_eq_false (by omega), cond_false, Nat.zero_add, ble_t (Nat.le_refl _), cond_true, seg_all]) (s := List.replicate ((n + 7) / 8) 0) ⟨BL_zeros _, List.length_replicate⟩ (f := N) (by omega)
  exact h1


def portText (x : PortValue) : ByteArray := putWord x.fPort ++ putWord x.fValue

def portsText (l : List PortValue) : ByteArray := catB (l.map portText)

theorem portText_size (x : PortValue) : (portText x).size = 8 := by unfold portText; rw [ByteArray.size_append, putWord_size, putWord_size]

theorem portsText_size (l : List PortValue) : (portsText l).size = 8 * l.length := by
  unfold portsText
  rw [catB_size, List.map_map]
  induction l with
  | nil => rfl
  | cons x l ih => simp only [List.map_cons, List.sum_cons, List.length_cons, ih, Function.comp, portText_size]; omega

theorem spec_l20Words_r_eq {l : List Int} {b : Bool} (hl : l.length ≤ 2 ^ 30) (hN : 2 ^ 40 < N) (k : ByteArray → Option R) : g_spec_l20Words_r N b l k = k (regsText l) := by
  unfold g_spec_l20Words_r c_spec_l20Words_r_0
  obtain ⟨h1, _⟩ := foldL (fun f i s => l_spec_l20Words_r_0 N b l (fun s2 => k s2) f s i) l (fun s x => s ++ putWord x) (fun i s => s.size = 4 * i) (fun s => k s) (fun f i s x hi hx hs => by
      simp only [l_spec_l20Words_r_0, s_spec_l20Words_r_0, dec_lt hi, dec_nn, Int.toNat_natCast, elemK_some hx, spec_PutWord_eq, putWord_size, ble_t (show s.size + 4 ≤ 9223372036854775807 by omega), wrap_next hi (by omega), Bool.and_true, cond_true]
      exact ⟨trivial, by rw [ByteArray.size_append, putWord_size]; omega⟩) (fun f s _ => by
      simp only [l_spec_l20Words_r_0, s_spec_l20Words_r_0, dec_nlt, cond_false]) (s := ⟨[].toArray⟩) rfl (f := N) (by omega)
  refine h1.trans ?_
  rw [foldl_append, ba_empty_append]; rfl

theorem spec_l20Ports_r_eq {l : List PortValue} {b : Bool} (hl : l.length ≤ 2 ^ 30) (hN : 2 ^ 40 < N) (k : ByteArray → Option R) : g_spec_l20Ports_r N b l k = k (portsText l) := by
  unfold g_spec_l20Ports_r c_spec_l20Ports_r_0
  obtain ⟨h1, _⟩ := foldL (fun f i s => l_spec_l20Ports_r_0 N b l (fun s2 => k s2) f s i) l (fun s x => s ++ portText x) (fun i s => s.size = 8 * i) (fun s => k s) (fun f i s x hi hx hs => by
      have hz : (s ++ putWord x.fPort).size = s.size + 4 := by rw [ByteArray.size_append, putWord_size]
      simp only [l_spec_l20Ports_r_0, s_spec_l20Ports_r_0, dec_lt hi, dec_nn, Int.toNat_natCast, elemK_some hx, spec_PutWord_eq, putWord_size, hz, ble_t (show s.size + 4 ≤ 9223372036854775807 by omega), ble_t (show s.size + 4 + 4 ≤ 9223372036854775807 by omega), wrap_next hi (by omega), Bool.and_true, cond_true]
      exact ⟨by unfold portText; rw [ByteArray.append_assoc], by rw [ByteArray.size_append, portText_size]; omega⟩) (fun f s _ => by
      simp only [l_spec_l20Ports_r_0, s_spec_l20Ports_r_0, dec_nlt, cond_false]) (s := ⟨[].toArray⟩) rfl (f := N) (by omega)
  refine h1.trans ?_
  rw [foldl_append, ba_empty_append]; rfl

theorem words_go {b5 : Bool} {l5 : List Int} (kN : List Int → Bool → List Int → Option R) : ∀ (suf pre : List Int) (f : Nat) (X : ByteArray), l5 = pre ++ suf → suf.length < f → X.size + 4 * suf.length ≤ 2 ^ 40 → l5.length ≤ 2 ^ 40 →
    l_impl_PackMachine_1_wWw_0 N b5 (l5.length : Int) l5 kN f (pre.length : Int) false (ofBytes X) = kN l5 false (ofBytes (X ++ regsText suf)) := by
  intro suf
  induction suf with
  | nil =>
    intro pre f X hl hf hX hlen
    obtain ⟨f, rfl⟩ : ∃ j, f = j + 1 := ⟨f - 1, by omega⟩
    have hn : (X ++ regsText []) = X := ba_append_empty X
    have he : pre.length = l5.length := by rw [hl]; simp
    rw [l_impl_PackMachine_1_wWw_0, s_impl_PackMachine_1_wWw_0, decide_eq_false (by omega), cond_false, hn]
  | cons x suf ih =>
    intro pre f X hl hf hX hlen
    obtain ⟨f, rfl⟩ : ∃ j, f = j + 1 := ⟨f - 1, by omega⟩
    have hll : l5.length = pre.length + (suf.length + 1) := by rw [hl]; simp
    rw [List.length_cons] at hf hX
    have hx : nth l5 pre.length = some x := by rw [hl, nth_eq]; simp
    have hw : IntKind.wrap .i64 ((pre.length : Int) + 1) = (((pre ++ [x]).length : Nat) : Int) := by rw [w64 (by omega) (by omega)]; simp
    have hof := ofBytes_length X
    have h1 := ih (pre ++ [x]) f (X ++ putWord x) (by rw [hl, List.append_assoc]; rfl) (by omega) (by rw [ByteArray.size_append, putWord_size]; omega) hlen
    have hcat : (X ++ putWord x) ++ regsText suf = X ++ regsText (x :: suf) := by rw [ByteArray.append_assoc]; rfl
    rw [hcat] at h1
    rw [l_impl_PackMachine_1_wWw_0, s_impl_PackMachine_1_wWw_0, decide_eq_true (by omega), cond_true, dec_nn, Bool.and_self, cond_true, Int.toNat_natCast, elemK_some hx, impl_PutWord_eq, impl_WriteString_eq N (by rw [putWord_size]; omega), putWord_size, hw, ← ofBytes_append]
    exact h1

theorem impl_words_eq {b b1 : Bool} {l : List Int} {X : ByteArray} (hl : 0 < l.length) (hX : X.size + 4 * l.length ≤ 2 ^ 40) (hN : 2 ^ 40 < N) (k : Option R) (k1 : List Int → Bool → List Int → Option R) :
    g_impl_PackMachine_1_wWw N b l b1 (ofBytes X) k k1 = k1 l false (ofBytes (X ++ regsText l)) := by
  obtain ⟨M, rfl⟩ : ∃ M, N = M + 1 := ⟨N - 1, by omega⟩
  cases l with
  | nil => simp at hl
  | cons x suf =>
    have hof := ofBytes_length X
    rw [List.length_cons] at hX
    have hx : nth (x :: suf) 0 = some x := rfl
    have h1 := words_go (R := R) (M + 1) (b5 := b) (l5 := x :: suf) (fun l8 b8 l9 => k1 l8 b8 l9) suf [x] M (X ++ putWord x) rfl (by omega) (by rw [ByteArray.size_append, putWord_size]; omega) (by rw [List.length_cons]; omega)
    have hcat : (X ++ putWord x) ++ regsText suf = X ++ regsText (x :: suf) := by rw [ByteArray.append_assoc]; rfl
    rw [hcat] at h1
    have hw : IntKind.wrap .i64 ((0 : Int) + 1) = (([x].length : Nat) : Int) := rfl
    unfold g_impl_PackMachine_1_wWw c_impl_PackMachine_1_wWw_0b1
    rw [l_impl_PackMachine_1_wWw_0b1, s_impl_PackMachine_1_wWw_0b1, decide_eq_true (show (0 : Int) < (((x :: suf).length : Nat) : Int) by rw [List.length_cons]; omega), cond_true, decide_eq_true (Int.le_refl 0), Bool.and_self, cond_true, show (0 : Int).toNat = 0 from rfl, elemK_some hx, impl_PutWord_eq, impl_WriteString_eq (M + 1) (by rw [putWord_size]; omega), putWord_size, hw, ← ofBytes_append]
    exact h1

theorem ports_go1 {n17 n18 n19 n22 n23 n24 n25 n26 n27 : Int} {b15 b16 b17 b18 b19 b20 b21 b23 b24 : Bool} {l12 l13 l14 : List Int} {l15 l16 : List PortValue} {s2 : ByteArray} (hN : 2 ^ 40 < N) (kN : Bool → List Int → Option R) : ∀ (suf pre : List PortValue) (f : Nat) (X : ByteArray), l15 = pre ++ suf → suf.length < f → X.size + 8 * suf.length ≤ 2 ^ 39 → l15.length ≤ 2 ^ 40 →
    l_impl_PackMachine_wwwww_2 N n17 b15 n18 n19 b16 (l15.length : Int) l12 l13 l14 l15 l16 n22 b17 n23 b18 b19 s2 n24 n25 n26 b20 b21 n27 b23 b24 kN f (pre.length : Int) false (ofBytes X) = kN false (ofBytes (X ++ portsText suf)) := by
  intro suf
  induction suf with
  | nil =>
    intro pre f X hl hf hX hlen
    obtain ⟨f, rfl⟩ : ∃ j, f = j + 1 := ⟨f - 1, by omega⟩
    have hn : (X ++ portsText []) = X := ba_append_empty X
    have he : pre.length = l15.length := by rw [hl]; simp
    rw [l_impl_PackMachine_wwwww_2, s_impl_PackMachine_wwwww_2, decide_eq_false (by omega), cond_false, hn]
  | cons x suf ih =>
    intro pre f X hl hf hX hlen
    obtain ⟨f, rfl⟩ : ∃ j, f = j + 1 := ⟨f - 1, by omega⟩
    have hll : l15.length = pre.length + (suf.length + 1) := by rw [hl]; simp
    rw [List.length_cons] at hf hX
    have hx : nth l15 pre.length = some x := by rw [hl, nth_eq]; simp
    have hw : IntKind.wrap .i64 ((pre.length : Int) + 1) = (((pre ++ [x]).length : Nat) : Int) := by rw [w64 (by omega) (by omega)]; simp
    have hr : regsText [x.fPort, x.fValue] = portText x := rfl
    have h1 := ih (pre ++ [x]) f (X ++ portText x) (by rw [hl, List.append_assoc]; rfl) (by omega) (by rw [ByteArray.size_append, portText_size]; omega) hlen
    have hcat : (X ++ portText x) ++ portsText suf = X ++ portsText (x :: suf) := by rw [ByteArray.append_assoc]; rfl
    rw [hcat] at h1
    rw [l_impl_PackMachine_wwwww_2, s_impl_PackMachine_wwwww_2, decide_eq_true (by omega), cond_true, dec_nn, Bool.and_self, cond_true, Int.toNat_natCast, elemK_some hx, impl_words_eq N (by simp) (by simp only [List.length_cons, List.length_nil]; omega) hN, hw, hr]
    exact h1

theorem ports_go2 {n17 n18 n19 n22 n23 n24 n25 n26 n27 : Int} {b15 b16 b17 b18 b19 b20 b21 b23 b24 : Bool} {l12 l13 l14 : List Int} {l15 l16 : List PortValue} {s2 : ByteArray} (hN : 2 ^ 40 < N) (kN : Bool → List Int → Option R) : ∀ (suf pre : List PortValue) (f : Nat) (X : ByteArray), l16 = pre ++ suf → suf.length < f → X.size + 8 * suf.length ≤ 2 ^ 39 → l16.length ≤ 2 ^ 40 →
    l_impl_PackMachine_wwwww_2b1 N n17 b15 n18 n19 b16 (l16.length : Int) l12 l13 l14 l15 l16 n22 b17 n23 b18 b19 s2 n24 n25 n26 b20 b21 n27 b23 b24 kN f (pre.length : Int) false (ofBytes X) = kN false (ofBytes (X ++ portsText suf)) := by
  intro suf
  induction suf with
  | nil =>
    intro pre f X hl hf hX hlen
    obtain ⟨f, rfl⟩ : ∃ j, f = j + 1 := ⟨f - 1, by omega⟩
    have hn : (X ++ portsText []) = X := ba_append_empty X
    have he : pre.length = l16.length := by rw [hl]; simp
    rw [l_impl_PackMachine_wwwww_2b1, s_impl_PackMachine_wwwww_2b1, decide_eq_false (by omega), cond_false, hn]
  | cons x suf ih =>
    intro pre f X hl hf hX hlen
    obtain ⟨f, rfl⟩ : ∃ j, f = j + 1 := ⟨f - 1, by omega⟩
    have hll : l16.length = pre.length + (suf.length + 1) := by rw [hl]; simp
    rw [List.length_cons] at hf hX
    have hx : nth l16 pre.length = some x := by rw [hl, nth_eq]; simp
    have hw : IntKind.wrap .i64 ((pre.length : Int) + 1) = (((pre ++ [x]).length : Nat) : Int) := by rw [w64 (by omega) (by omega)]; simp
    have hr : regsText [x.fPort, x.fValue] = portText x := rfl
    have h1 := ih (pre ++ [x]) f (X ++ portText x) (by rw [hl, List.append_assoc]; rfl) (by omega) (by rw [ByteArray.size_append, portText_size]; omega) hlen
    have hcat : (X ++ portText x) ++ portsText suf = X ++ portsText (x :: suf) := by rw [ByteArray.append_assoc]; rfl
    rw [hcat] at h1
    rw [l_impl_PackMachine_wwwww_2b1, s_impl_PackMachine_wwwww_2b1, decide_eq_true (by omega), cond_true, dec_nn, Bool.and_self, cond_true, Int.toNat_natCast, elemK_some hx, impl_words_eq N (by simp) (by simp only [List.length_cons, List.length_nil]; omega) hN, hw, hr]
    exact h1

theorem ports_both {n8 n11 n12 n13 n14 n15 n16 : Int} {b6 b7 b8 b9 b10 b11 b13 b14 : Bool} {l6 l7 l8 : List Int} {l9 l10 : List PortValue} {s1 : ByteArray} {X : ByteArray} (h9 : l9.length ≤ 1000) (h10 : l10.length ≤ 1000) (hX : X.size ≤ 2 ^ 30) (hN : 2 ^ 40 < N) (kN : Bool → List Int → Option R) :
    c_impl_PackMachine_wwwww_0 N n8 b6 2 l6 l7 l8 l9 l10 n11 b7 n12 b8 b9 s1 n13 n14 n15 b10 b11 n16 b13 b14 0 false (ofBytes X) kN = kN false (ofBytes (X ++ portsText l9 ++ portsText l10)) := by
  obtain ⟨M, rfl⟩ : ∃ M, N = M + 3 := ⟨N - 3, by omega⟩
  unfold c_impl_PackMachine_wwwww_0
  rw [l_impl_PackMachine_wwwww_0, s_impl_PackMachine_wwwww_0, decide_eq_true (show (0 : Int) < 2 by omega), cond_true, decide_eq_true (rfl : (0 : Int) = 0), cond_true]
  unfold c_impl_PackMachine_wwwww_2
  have e0 : (([] : List PortValue).length : Int) = 0 := rfl
  refine (ports_go1 (M + 3) hN _ l9 [] (M + 3) X rfl (by omega) (by omega) (show l9.length ≤ 2 ^ 40 by omega)).trans ?_
  rw [show IntKind.wrap .i64 ((0 : Int) + 1) = 1 from rfl, l_impl_PackMachine_wwwww_0, s_impl_PackMachine_wwwww_0, decide_eq_true (show (1 : Int) < 2 by omega), cond_true, decide_eq_false (show ¬ (1 : Int) = 0 by omega), cond_false, decide_eq_true (rfl : (1 : Int) = 1), cond_true]
  unfold c_impl_PackMachine_wwwww_2b1
  refine (ports_go2 (M + 3) hN _ l10 [] (M + 3) (X ++ portsText l9) rfl (by omega) (by rw [ByteArray.size_append, portsText_size]; omega) (show l10.length ≤ 2 ^ 40 by omega)).trans ?_
  rw [show IntKind.wrap .i64 ((1 : Int) + 1) = 2 from rfl, l_impl_PackMachine_wwwww_0, s_impl_PackMachine_wwwww_0, decide_eq_false (show ¬ (2 : Int) < 2 by omega), cond_false]

def nzStep (s : ByteArray) (X : ByteArray) (i : Nat) : ByteArray := cond (!frZ s i) (X ++ frame s i) X

def nzFrames (s X : ByteArray) (n : Nat) : ByteArray := (List.range n).foldl (nzStep s) X

theorem nzFrames_size {s X : ByteArray} {m : Nat} (hs : s.size = m * 256) : ∀ n, n ≤ m → (nzFrames s X n).size ≤ X.size + 256 * n := by
  intro n
  induction n with
  | zero => intro _; exact Nat.le_refl _
  | succ n ih =>
    intro hn
    have := ih (by omega)
    unfold nzFrames at this ⊢
    rw [List.range_succ, List.foldl_append]
    generalize (List.range n).foldl (nzStep s) X = Y at this ⊢
    show (nzStep s Y n).size ≤ _
    unfold nzStep
    cases (!frZ s n) with
    | true => rw [cond_true, ByteArray.size_append, frame_size (by omega)]; omega
    | false => rw [cond_false]; omega

theorem impl_frames_go {s X : ByteArray} {n : Nat} {n42 n43 n44 n45 n46 n47 : Int} {b41 b42 b43 b44 b45 : Bool} {l32 l33 l34 : List Int} {l35 l36 : List PortValue} (hs : s.size = n * 256) (hn : n ≤ 256) (hX : X.size ≤ 2 ^ 30) (hN : 2 ^ 40 < N) (kN : Bool → List Int → Option R) :
    c_impl_PackMachine_wwwww_4 N (toBytes (bset (fun i => !frZ s i) n)) (n : Int) l32 l33 l34 l35 l36 n42 b41 n43 b42 b43 s n44 n45 n46 b44 b45 n47 0 false (ofBytes X) kN = kN false (ofBytes (nzFrames s X n)) := by
  obtain ⟨q1, q2, q3⟩ := bset_facts (fun i => !frZ s i) n
  unfold c_impl_PackMachine_wwwww_4
  obtain ⟨h1, _⟩ := fold (fun f i X => l_impl_PackMachine_wwwww_4 N (toBytes (bset (fun i => !frZ s i) n)) (n : Int) l32 l33 l34 l35 l36 n42 b41 n43 b42 b43 s n44 n45 n46 b44 b45 n47 kN f i false (ofBytes X)) n (fun i X => nzStep s X i) (fun i X => X.size ≤ 2 ^ 30 + 256 * i) (fun X => kN false (ofBytes X)) (fun f i X hi hX => by
      have hw : IntKind.wrap .i64 ((i : Int) + 1) = ((i + 1 : Nat) : Int) := by rw [w64 (by omega) (by omega)]; omega
      have e1 : IntKind.wrap .i64 ((i : Int) * 256) = ((i * 256 : Nat) : Int) := by rw [w64 (by omega) (by omega)]; omega
      have e2 : IntKind.wrap .i64 (((i + 1 : Nat) : Int) * 256) = ((i * 256 + 256 : Nat) : Int) := by rw [w64 (by omega) (by omega)]; omega
      have hfs := frame_size (s := s) (f := i) (by omega)
      have hof := ofBytes_length X
      rw [l_impl_PackMachine_wwwww_4, s_impl_PackMachine_wwwww_4, decide_eq_true (show (i : Int) < (n : Int) by omega), cond_true, impl_yhasBit_eq N q1 (by omega) (by omega) (by omega), q3 i hi, hw]
      unfold nzStep
      cases frZ s i with
      | true => exact ⟨rfl, by show X.size ≤ _; omega⟩
      | false =>
        refine ⟨?_, by show (X ++ frame s i).size ≤ _; rw [ByteArray.size_append, hfs]; omega⟩
        have hext : s.extract (i * 256) (i * 256 + 256) = frame s i := rfl
        rw [Bool.not_false, cond_true, e1, e2, dec_nn, decide_eq_true (show ((i * 256 : Nat) : Int) ≤ ((i * 256 + 256 : Nat) : Int) by omega), decide_eq_true (show ((i * 256 + 256 : Nat) : Int) ≤ (s.size : Int) by omega), Bool.and_self, Bool.and_self, cond_true, Int.toNat_natCast, Int.toNat_natCast, hext, impl_WriteString_eq N (by omega), hfs, ← ofBytes_append, cond_true]
        rfl) (fun f X _ => by
      rw [l_impl_PackMachine_wwwww_4, s_impl_PackMachine_wwwww_4, decide_eq_false (by omega), cond_false]) (s := X) (by show X.size ≤ _; omega) (f := N) (by omega)
  exact h1

def vm1 : ByteArray := ⟨[(86 : UInt8), (77 : UInt8), (49 : UInt8), (10 : UInt8)].toArray⟩

def packHead (pc md st cn ln tr : Int) (s : ByteArray) (l l1 l2 : List Int) (l3 l4 : List PortValue) : ByteArray :=
  vm1 ++ regsText [((s.size / 256 : Nat) : Int), (l3.length : Int), (l4.length : Int), pc, md, st, cn, cn / 4294967296, ln, tr] ++ regsText l ++ regsText l1 ++ regsText l2 ++ portsText l3 ++ portsText l4

def packBody (pc md st cn ln tr : Int) (s : ByteArray) (l l1 l2 : List Int) (l3 l4 : List PortValue) : ByteArray :=
  nzFrames s (packHead pc md st cn ln tr s l l1 l2 l3 l4 ++ toBytes (bset (fun i => !frZ s i) (s.size / 256))) (s.size / 256)

def packM (pc md st cn ln tr : Int) (s : ByteArray) (l l1 l2 : List Int) (l3 l4 : List PortValue) : ByteArray :=
  cond (machOk pc md st cn ln tr s l l1 l2 l3 l4) (cond (decide (((packBody pc md st cn ln tr s l l1 l2 l3 l4).size : Int) + 4 > 65536)) ⟨[].toArray⟩ (packBody pc md st cn ln tr s l l1 l2 l3 l4 ++ putWord (mix (packBody pc md st cn ln tr s l l1 l2 l3 l4) 61))) ⟨[].toArray⟩

theorem machOk_facts {pc md st cn ln tr : Int} {s : ByteArray} {l l1 l2 : List Int} {l3 l4 : List PortValue} (h : machOk pc md st cn ln tr s l l1 l2 l3 l4 = true) :
    memOk s = true ∧ l.length = 16 ∧ l1.length = 12 ∧ l2.length = 16 ∧ l3.length ≤ 100 ∧ l4.length ≤ 100 ∧ 0 ≤ cn ∧ cn ≤ 1099511627776 ∧ s.size ≤ 65536 ∧ s.size % 256 = 0 ∧ 256 ≤ s.size := by
  unfold machOk portsOk at h
  simp only [Bool.and_eq_true, decide_eq_true_eq] at h
  obtain ⟨hm, _, ⟨h1, _⟩, _, ⟨h2, _⟩, ⟨h3, _⟩, _, _, ⟨c0, c1⟩, _, ⟨h4, _⟩, ⟨h5, _⟩, _⟩ := h
  have hm2 := hm
  unfold memOk at hm2
  simp only [Bool.and_eq_true, decide_eq_true_eq] at hm2
  obtain ⟨m1, m2, m3⟩ := hm2
  have h6 : Int.tmod (s.size : Int) 256 = 0 := by simpa using m3
  rw [tmod_nn (by omega)] at h6
  exact ⟨hm, h1, h2, h3, h4, h5, by omega, by omega, by omega, by omega, by omega⟩

theorem packHead_size {pc md st cn ln tr : Int} {s : ByteArray} {l l1 l2 : List Int} {l3 l4 : List PortValue} : (packHead pc md st cn ln tr s l l1 l2 l3 l4).size = 44 + 4 * l.length + 4 * l1.length + 4 * l2.length + 8 * l3.length + 8 * l4.length := by
  unfold packHead
  rw [ByteArray.size_append, ByteArray.size_append, ByteArray.size_append, ByteArray.size_append, ByteArray.size_append, ByteArray.size_append, regsText_size, regsText_size, regsText_size, regsText_size, portsText_size, portsText_size, show vm1.size = 4 from rfl]
  simp only [List.length_cons, List.length_nil]

theorem regs_cn (a b c d e f g h i j : Int) : regsText [a, b, c, d, e, f, g % 4294967296, h, i, j] = regsText [a, b, c, d, e, f, g, h, i, j] := by
  unfold regsText
  have : putWord (g % 4294967296) = putWord g := putWord_congr (by unfold word; omega)
  simp only [List.map_cons, List.map_nil, this]

theorem nzFrames_ge (s X : ByteArray) : ∀ n, X.size ≤ (nzFrames s X n).size := by
  intro n
  induction n with
  | zero => exact Nat.le_refl _
  | succ n ih =>
    unfold nzFrames at ih ⊢
    rw [List.range_succ, List.foldl_append]
    generalize (List.range n).foldl (nzStep s) X = Y at ih ⊢
    show _ ≤ (nzStep s Y n).size
    unfold nzStep
    cases (!frZ s n) with
    | true => rw [cond_true, ByteArray.size_append]; omega
    | false => rw [cond_false]; omega

theorem impl_PackMachine_eq {pc md st cn ln tr : Int} {b b1 b2 b3 b4 : Bool} {s : ByteArray} {l l1 l2 : List Int} {l3 l4 : List PortValue} (h1 : l.length ≤ 2 ^ 40) (h2 : l1.length ≤ 2 ^ 40) (h3 : l2.length ≤ 2 ^ 40) (hN : 2 ^ 40 < N) (k : ByteArray → List Int → List Int → List Int → Option R) :
    g_impl_PackMachine_wwwww N pc b md b1 b2 s st cn ln b3 b4 tr l l1 l2 l3 l4 k = k (packM pc md st cn ln tr s l l1 l2 l3 l4) l l1 l2 := by
  unfold g_impl_PackMachine_wwwww packM
  rw [impl_MachineFault_eq N h1 h2 h3 hN]
  cases hok : machOk pc md st cn ln tr s l l1 l2 l3 l4 with
  | false => rfl
  | true =>
  obtain ⟨hm, g1, g2, g3, g4, g5, c0, c1, z1, z2, z3⟩ := machOk_facts hok
  obtain ⟨n, hn⟩ : ∃ n, s.size / 256 = n := ⟨_, rfl⟩
  have hsn : s.size = n * 256 := by omega
  have hn256 : n ≤ 256 := by omega
  have hps := packHead_size (pc := pc) (md := md) (st := st) (cn := cn) (ln := ln) (tr := tr) (s := s) (l := l) (l1 := l1) (l2 := l2) (l3 := l3) (l4 := l4)
  obtain ⟨q1, q2, _⟩ := bset_facts (fun i => !frZ s i) n
  have v4 : vm1.size = 4 := rfl
  have hbz := nzFrames_size (s := s) (X := packHead pc md st cn ln tr s l l1 l2 l3 l4 ++ toBytes (bset (fun i => !frZ s i) n)) hsn n (Nat.le_refl _)
  have ef : IntKind.wrap .i64 (Int.tdiv (s.size : Int) 256) = (n : Int) := by rw [Int.tdiv_eq_ediv_of_nonneg (by omega), w64 (by omega) (by omega)]; omega
  have em : Int.tmod cn 4294967296 = cn % 4294967296 := tmod_nn c0
  have ed : IntKind.wrap .i64 (Int.tdiv cn 4294967296) = cn / 4294967296 := by rw [Int.tdiv_eq_ediv_of_nonneg c0, w64 (by omega) (by omega)]
  have hhead : packHead pc md st cn ln tr s l l1 l2 l3 l4 = vm1 ++ regsText [(n : Int), (l3.length : Int), (l4.length : Int), pc, md, st, cn % 4294967296, cn / 4294967296, ln, tr] ++ regsText l ++ regsText l1 ++ regsText l2 ++ portsText l3 ++ portsText l4 := by
    unfold packHead; rw [hn, regs_cn]
  have e1 : ∀ a b c d e f g h i j : Int, (regsText [a, b, c, d, e, f, g, h, i, j]).size = 40 := fun a b c d e f g h i j => by rw [regsText_size]; rfl
  have e2 : (regsText l).size = 64 := by rw [regsText_size]; omega
  have e3 : (regsText l1).size = 48 := by rw [regsText_size]; omega
  have e4 : (regsText l2).size = 64 := by rw [regsText_size]; omega
  have ez : (toBytes (bset (fun i => !frZ s i) n)).size = (n + 7) / 8 := by rw [toBytes_size, q2]
  have hb4 : cond (Nat.beq vm1.size 0) true false = false := rfl
  have hzl : Nat.beq (toBytes (bset (fun i => !frZ s i) n)).size 0 = false := by
    rw [ez]
    cases hx : Nat.beq ((n + 7) / 8) 0 with
    | false => rfl
    | true => have := Nat.eq_of_beq_eq_true hx; omega
  rw [cond_true, bne_self_eq_false, cond_false, show (ByteArray.mk (List.toArray [(86 : UInt8), (77 : UInt8), (49 : UInt8), (10 : UInt8)])) = vm1 from rfl, impl_WriteString_eq0 N (by simp [v4]), hb4, List.nil_append, ef, em, ed,
    impl_words_eq N (by simp) (by rw [v4]; simp) hN, impl_words_eq N (by omega) (by rw [ByteArray.size_append, e1, v4]; omega) hN, impl_words_eq N (by omega) (by rw [ByteArray.size_append, ByteArray.size_append, e1, v4, e2]; omega) hN, impl_words_eq N (by omega) (by rw [ByteArray.size_append, ByteArray.size_append, ByteArray.size_append, e1, v4, e2, e3]; omega) hN]
  refine (ports_both N (by omega) (by omega) (by rw [ByteArray.size_append, ByteArray.size_append, ByteArray.size_append, ByteArray.size_append, e1, v4, e2, e3, e4]; omega) hN _).trans ?_
  rw [← hhead, impl_frameSet_eq N hsn hn256 hN]
  rw [impl_WriteString_eq N (by rw [ofBytes_length, hps, ez]; omega), hzl, cond_false, ← ofBytes_append]
  refine (impl_frames_go N hsn hn256 (by rw [ByteArray.size_append, hps, ez]; omega) hN _).trans ?_
  have hb : packBody pc md st cn ln tr s l l1 l2 l3 l4 = nzFrames s (packHead pc md st cn ln tr s l l1 l2 l3 l4 ++ toBytes (bset (fun i => !frZ s i) n)) n := by unfold packBody; rw [hn]
  rw [← hb]
  rw [← hb, ByteArray.size_append, hps, ez] at hbz
  have hlow : 0 < (packBody pc md st cn ln tr s l l1 l2 l3 l4).size := by
    have := nzFrames_ge s (packHead pc md st cn ln tr s l l1 l2 l3 l4 ++ toBytes (bset (fun i => !frZ s i) n)) n
    rw [hb, ByteArray.size_append, hps] at *
    omega
  generalize packBody pc md st cn ln tr s l l1 l2 l3 l4 = B at hbz hlow
  have hob := ofBytes_length B
  rw [cond_false, blt_t (by omega), ble_t (by omega), Bool.and_self, cond_true, cond_false, cond_true, toBytes_ofBytes, impl_ymix_eq N (by omega) hN, impl_PutWord_eq, putWord_size, ble_t (by omega), cond_true, ByteArray.size_append, putWord_size, cond_true]
  by_cases hbig : (B.size : Int) + 4 > 65536
  · rw [decide_eq_true hbig, decide_eq_true (by omega)]; rfl
  · rw [decide_eq_false hbig, decide_eq_false (by omega)]; rfl


theorem laws_eqInt64S_rr_eq {l m : List Int} {b b1 : Bool} (hl : l.length ≤ 2 ^ 40) (hN : 2 ^ 40 < N) (k : Bool → Option R) : g_laws_eqInt64S_rr N b b1 l m k = k (decide (l = m)) := by
  unfold g_laws_eqInt64S_rr
  by_cases h : l.length = m.length
  · rw [show ((l.length : Int) != (m.length : Int)) = false by simp [h]]
    unfold c_laws_eqInt64S_rr_0
    refine (eql (l_laws_eqInt64S_rr_0 N b b1 l m (k false) (k true)) l m h (k false) (k true) (fun f i x y hi hx hy => ?_) (fun f => ?_) (by omega)).trans ?_
    · simp only [l_laws_eqInt64S_rr_0, s_laws_eqInt64S_rr_0, dec_lt hi, dec_nn, Int.toNat_natCast, elemK_some hx, elemK_some hy, dec_lt (show i < m.length by omega), wrap_next hi (by omega), Bool.and_true, cond_true, bne_dec]
    · simp only [l_laws_eqInt64S_rr_0, s_laws_eqInt64S_rr_0, dec_nlt, cond_false]
    · cases decide (l = m) <;> rfl
  · rw [show ((l.length : Int) != (m.length : Int)) = true by simp; omega]
    rw [decide_eq_false (fun e => h (by rw [e]))]
    rfl

theorem eqMachine_self_r {pc md c2 c3 c4 c5 : Int} {b b1 b2 b3 b4 d d1 d2 d3 d4 : Bool} {m : ByteArray} {L1 L2 L3 : List Int} {M1 M2 : List PortValue} (h1 : L1.length ≤ 2 ^ 40) (h2 : L2.length ≤ 2 ^ 40) (h3 : L3.length ≤ 2 ^ 40) (h4 : M1.length ≤ 2 ^ 40) (h5 : M2.length ≤ 2 ^ 40) (hN : 2 ^ 40 < N) (k : Bool → Option R) :
    g_laws_eqMachine_rrrrrrrrrr N pc b md b1 b2 m c2 c3 c4 b3 b4 c5 pc d md d1 d2 m c2 c3 c4 d3 d4 c5 L1 L2 L3 M1 M2 L1 L2 L3 M1 M2 k = k true := by
  unfold g_laws_eqMachine_rrrrrrrrrr
  rw [bne_self_eq_false, cond_false, laws_eqInt64S_rr_eq N h1 hN, decide_eq_true rfl, Bool.not_true, cond_false, bne_self_eq_false, cond_false, laws_eqInt64S_rr_eq N h2 hN, decide_eq_true rfl, Bool.not_true, cond_false, laws_eqInt64S_rr_eq N h3 hN, decide_eq_true rfl, Bool.not_true, cond_false, decide_eq_true rfl, Bool.not_true, cond_false,
    bne_self_eq_false, cond_false, bne_self_eq_false, cond_false, bne_self_eq_false, cond_false, laws_eqPortValueS_rr_eq N h4 hN, decide_eq_true rfl, Bool.not_true, cond_false, laws_eqPortValueS_rr_eq N h5 hN, decide_eq_true rfl, Bool.not_true, cond_false, bne_self_eq_false, cond_false]

theorem szMachine_eq {pc md st cn ln tr n : Int} {b b1 b2 b3 b4 : Bool} {s : ByteArray} {l l1 l2 : List Int} {l3 l4 : List PortValue} (hn : 0 ≤ n ∧ n ≤ 2 ^ 30) (h1 : l.length ≤ maxLen) (h2 : l1.length ≤ maxLen) (h3 : l2.length ≤ maxLen) (hs : s.size ≤ maxLen) (h4 : l3.length ≤ maxLen) (h5 : l4.length ≤ maxLen) :
    ∃ v : Int, (v < 0 ∨ (0 ≤ v ∧ v ≤ n ∧ (l.length : Int) ≤ n ∧ (l1.length : Int) ≤ n ∧ (l2.length : Int) ≤ n ∧ (s.size : Int) ≤ n ∧ (l3.length : Int) ≤ n ∧ (l4.length : Int) ≤ n)) ∧ ∀ k : Int → Option R, g_laws_szMachine_rrrrr N pc b md b1 b2 s st cn ln b3 b4 tr n l l1 l2 l3 l4 k = k v := by
  have hm : maxLen = 9223372036854775807 := rfl
  have hw : ∀ (a : Int) (c : Nat), 0 ≤ a → a ≤ 2 ^ 30 → c ≤ maxLen → IntKind.wrap .i64 (a - (c : Int)) = a - (c : Int) := fun a c h1 h2 h3 => w64 (by omega) (by omega)
  unfold g_laws_szMachine_rrrrr g_laws_szInt64S_r g_laws_szPortValueS_r
  rw [hw n _ (by omega) (by omega) h1]
  by_cases c1 : n - (l.length : Int) < 0
  · exact ⟨-1, .inl (by omega), fun k => by rw [decide_eq_true c1]; rfl⟩
  rw [decide_eq_false c1]
  dsimp only [cond_false]
  try rw [decide_eq_false c1]
  rw [hw _ _ (by omega) (by omega) h2]
  by_cases c2 : n - (l.length : Int) - (l1.length : Int) < 0
  · exact ⟨-1, .inl (by omega), fun k => by rw [decide_eq_true c2]; rfl⟩
  rw [decide_eq_false c2]
  dsimp only [cond_false]
  try rw [decide_eq_false c2]
  rw [hw _ _ (by omega) (by omega) h3]
  by_cases c3 : n - (l.length : Int) - (l1.length : Int) - (l2.length : Int) < 0
  · exact ⟨-1, .inl (by omega), fun k => by rw [decide_eq_true c3]; rfl⟩
  rw [decide_eq_false c3]
  dsimp only [cond_false]
  try rw [decide_eq_false c3]
  rw [hw _ _ (by omega) (by omega) hs]
  by_cases c4 : n - (l.length : Int) - (l1.length : Int) - (l2.length : Int) - (s.size : Int) < 0
  · exact ⟨-1, .inl (by omega), fun k => by rw [decide_eq_true c4]; rfl⟩
  rw [decide_eq_false c4]
  dsimp only [cond_false]
  rw [hw _ _ (by omega) (by omega) h4]
  by_cases c5 : n - (l.length : Int) - (l1.length : Int) - (l2.length : Int) - (s.size : Int) - (l3.length : Int) < 0
  · exact ⟨-1, .inl (by omega), fun k => by rw [decide_eq_true c5]; rfl⟩
  rw [decide_eq_false c5]
  dsimp only [cond_false]
  try rw [decide_eq_false c5]
  rw [hw _ _ (by omega) (by omega) h5]
  by_cases c6 : n - (l.length : Int) - (l1.length : Int) - (l2.length : Int) - (s.size : Int) - (l3.length : Int) - (l4.length : Int) < 0
  · exact ⟨-1, .inl (by omega), fun k => by rw [decide_eq_true c6]; rfl⟩
  rw [decide_eq_false c6]
  dsimp only [cond_false]
  try rw [decide_eq_false c6]
  exact ⟨_, .inr ⟨by omega, by omega, by omega, by omega, by omega, by omega, by omega, by omega⟩, fun k => rfl⟩

theorem toMachine_eq {pc md st cn ln tr : Int} {b b1 b2 b3 b4 : Bool} {s : ByteArray} {l l1 l2 : List Int} {l3 l4 : List PortValue} (h1 : l.length ≤ 2 ^ 40) (h2 : l1.length ≤ 2 ^ 40) (h3 : l2.length ≤ 2 ^ 40) (h4 : l3.length ≤ 2 ^ 40) (h5 : l4.length ≤ 2 ^ 40) (hN : 2 ^ 40 < N) (k : List Int → List Int → List Int → List PortValue → List PortValue → Option R) :
    g_laws_toMachine_rrrrr N pc b md b1 b2 s st cn ln b3 b4 tr l l1 l2 l3 l4 k = k l l1 l2 l3 l4 := by
  unfold g_laws_toMachine_rrrrr
  rw [laws_toInt64S_r_eq N h1 hN, laws_toInt64S_r_eq N h2 hN, laws_toInt64S_r_eq N h3 hN, laws_toPortValueS_r_eq N h4 hN, laws_toPortValueS_r_eq N h5 hN]

theorem impl_MachineFault_r_eq {pc md st cn ln tr : Int} {b b1 b2 b3 b4 : Bool} {s : ByteArray} {l l1 l2 : List Int} {l3 l4 : List PortValue} (h1 : l.length ≤ 2 ^ 40) (h2 : l1.length ≤ 2 ^ 40) (h3 : l2.length ≤ 2 ^ 40) (hN : 2 ^ 40 < N) (k : Int → Option R) :
    g_impl_MachineFault_rrrrr N pc b md b1 b2 s st cn ln b3 b4 tr l l1 l2 l3 l4 k = k (cond (machOk pc md st cn ln tr s l l1 l2 l3 l4) 0 1) := by
  unfold g_impl_MachineFault_rrrrr machOk
  have w16 : ∀ (b : Bool) (K : Bool → Option Bool), g_impl_ywordsOk_r N b 16 l K = K (decide (l.length = 16) && allW l) := fun b K => impl_ywordsOk_eq N (n := 16) h1 hN K
  have w12 : ∀ (b : Bool) (K : Bool → Option Bool), g_impl_ywordsOk_r N b 12 l1 K = K (decide (l1.length = 12) && allW l1) := fun b K => impl_ywordsOk_eq N (n := 12) h2 hN K
  have w16b : ∀ (b : Bool) (K : Bool → Option Bool), g_impl_ywordsOk_r N b 16 l2 K = K (decide (l2.length = 16) && allW l2) := fun b K => impl_ywordsOk_eq N (n := 16) h3 hN K
  rw [impl_ymemOk_eq]
  cases memOk s with
  | false => rfl
  | true =>
  rw [Bool.not_true, cond_false, Bool.true_and, impl_yisWord_eq]
  have hW : (decide (pc ≥ 0) && decide (pc < 4294967296)) = isW pc := rfl
  rw [hW]
  cases isW pc with
  | false => rfl
  | true =>
  rw [Bool.not_true, cond_false, Bool.true_and, w16]
  by_cases hl : l.length = 16
  · rw [decide_eq_true hl, Bool.true_and]
    cases allW l with
    | false => rfl
    | true =>
    rw [Bool.not_true, cond_false, Bool.true_and, decide_eq_true (show (0 : Int) < (l.length : Int) by omega), cond_true, elemK_some (gi_some (show 0 < l.length by omega))]
    cases (gi l 0 != 0) with
    | true => rfl
    | false =>
    rw [cond_false, Bool.not_false, Bool.true_and, w12]
    by_cases hl1 : l1.length = 12
    · rw [decide_eq_true hl1, Bool.true_and]
      cases allW l1 with
      | false => rfl
      | true =>
      rw [Bool.not_true, cond_false, Bool.true_and, w16b]
      cases (decide (l2.length = 16) && allW l2) with
      | false => rfl
      | true =>
      rw [Bool.not_true, cond_false, Bool.true_and, decide_eq_true (show (0 : Int) < (l1.length : Int) by omega), decide_eq_true (show (8 : Int) < (l1.length : Int) by omega), decide_eq_true (show (9 : Int) < (l1.length : Int) by omega), decide_eq_true (show (11 : Int) < (l1.length : Int) by omega), impl_yin_eq, impl_yin_eq, impl_yin_eq, impl_yin_eq, impl_yin_eq, impl_yportsOk_eq N hN, impl_yportsOk_eq N hN,
        elemK_some (gi_some (show 0 < l1.length by omega)), elemK_some (gi_some (show 8 < l1.length by omega)), elemK_some (gi_some (show 9 < l1.length by omega)), elemK_some (gi_some (show 11 < l1.length by omega))]
      cases (decide (md ≥ 0) && decide (md ≤ 1))
      · rfl
      cases (decide (st ≥ 0) && decide (st ≤ 2))
      · rfl
      cases (decide (cn ≥ 0) && decide (cn ≤ 1099511627776))
      · rfl
      cases (decide (ln ≥ 0) && decide (ln ≤ 127))
      · rfl
      cases portsOk l3
      · rfl
      cases portsOk l4
      · rfl
      cases (decide (tr ≥ 0) && decide (tr ≤ 2147483628))
      · rfl
      cases decide (gi l1 0 ≥ 32)
      rotate_left
      · rfl
      cases (gi l1 8 != 0)
      rotate_left
      · rfl
      cases (gi l1 9 != 0)
      rotate_left
      · rfl
      cases (gi l1 11 != 0) <;> rfl
    · rw [decide_eq_false hl1]; rfl
  · rw [decide_eq_false hl]; rfl

theorem spec_MachineFault_r_eq {pc md st cn ln tr : Int} {b b1 b2 b3 b4 : Bool} {s : ByteArray} {l l1 l2 : List Int} {l3 l4 : List PortValue} (h1 : l.length ≤ 2 ^ 40) (h2 : l1.length ≤ 2 ^ 40) (h3 : l2.length ≤ 2 ^ 40) (hN : 2 ^ 40 < N) (k : Int → Option R) :
    g_spec_MachineFault_rrrrr N pc b md b1 b2 s st cn ln b3 b4 tr l l1 l2 l3 l4 k = k (cond (machOk pc md st cn ln tr s l l1 l2 l3 l4) 0 1) := by
  unfold g_spec_MachineFault_rrrrr machOk
  have w16 : ∀ (b : Bool) (K : Bool → Option Bool), g_spec_l04Words_r N b 16 l K = K (decide (l.length = 16) && allW l) := fun b K => spec_l04Words_eq N (n := 16) h1 hN K
  have w12 : ∀ (b : Bool) (K : Bool → Option Bool), g_spec_l04Words_r N b 12 l1 K = K (decide (l1.length = 12) && allW l1) := fun b K => spec_l04Words_eq N (n := 12) h2 hN K
  have w16b : ∀ (b : Bool) (K : Bool → Option Bool), g_spec_l04Words_r N b 16 l2 K = K (decide (l2.length = 16) && allW l2) := fun b K => spec_l04Words_eq N (n := 16) h3 hN K
  rw [spec_MemFault_eq]
  cases memOk s with
  | false => rfl
  | true =>
  rw [cond_true, show ((0 : Int) != 0) = false from rfl, cond_false, Bool.true_and, spec_l01IsWord_eq]
  have hW : (decide (pc ≥ 0) && decide (pc < 4294967296)) = isW pc := rfl
  rw [hW]
  cases isW pc with
  | false => rfl
  | true =>
  rw [Bool.not_true, cond_false, Bool.true_and, w16]
  by_cases hl : l.length = 16
  · rw [decide_eq_true hl, Bool.true_and]
    cases allW l with
    | false => rfl
    | true =>
    rw [Bool.not_true, cond_false, Bool.true_and, decide_eq_true (show (0 : Int) < (l.length : Int) by omega), cond_true, elemK_some (gi_some (show 0 < l.length by omega))]
    cases (gi l 0 != 0) with
    | true => rfl
    | false =>
    rw [cond_false, Bool.not_false, Bool.true_and, w12]
    by_cases hl1 : l1.length = 12
    · rw [decide_eq_true hl1, Bool.true_and]
      cases allW l1 with
      | false => rfl
      | true =>
      rw [Bool.not_true, cond_false, Bool.true_and, w16b]
      cases (decide (l2.length = 16) && allW l2) with
      | false => rfl
      | true =>
      have n1 : ∀ a : Int, decide (a < 0) = !decide (a ≥ 0) := fun a => by rw [← decide_not]; exact decide_eq_decide.2 (by omega)
      have n2 : ∀ a c : Int, decide (a > c) = !decide (a ≤ c) := fun a c => by rw [← decide_not]; exact decide_eq_decide.2 (by omega)
      have n3 : decide (tr ≥ 2147483629) = !decide (tr ≤ 2147483628) := by rw [← decide_not]; exact decide_eq_decide.2 (by omega)
      rw [Bool.not_true, oK_some_eq, cond_false, Bool.true_and, decide_eq_true (show (0 : Int) < (l1.length : Int) by omega), decide_eq_true (show (8 : Int) < (l1.length : Int) by omega), decide_eq_true (show (9 : Int) < (l1.length : Int) by omega), decide_eq_true (show (11 : Int) < (l1.length : Int) by omega), spec_l04Ports_eq N hN, spec_l04Ports_eq N hN,
        elemK_some (gi_some (show 0 < l1.length by omega)), elemK_some (gi_some (show 8 < l1.length by omega)), elemK_some (gi_some (show 9 < l1.length by omega)), elemK_some (gi_some (show 11 < l1.length by omega)), n1, n1, n1, n1, n1, n2, n2, n2, n2, n3]
      cases decide (md ≥ 0)
      · rfl
      cases decide (md ≤ 1)
      · rfl
      cases decide (st ≥ 0)
      · rfl
      cases decide (st ≤ 2)
      · rfl
      cases decide (cn ≥ 0)
      · rfl
      cases decide (cn ≤ 1099511627776)
      · rfl
      cases decide (ln ≥ 0)
      · rfl
      cases decide (ln ≤ 127)
      · rfl
      cases decide (tr ≥ 0) <;> cases decide (tr ≤ 2147483628) <;> cases decide (gi l1 0 ≥ 32) <;> cases (gi l1 8 != 0) <;> cases (gi l1 9 != 0) <;> cases (gi l1 11 != 0) <;> cases portsOk l3 <;> cases portsOk l4 <;> rfl
    · rw [decide_eq_false hl1]; rfl
  · rw [decide_eq_false hl]; rfl

theorem spec_frames_r_go {s X : ByteArray} {n : Nat} {n10 n11 n12 n13 n14 n15 : Int} {b5 b6 b7 b8 b9 : Bool} {l5 l6 l7 : List Int} {l8 l9 : List PortValue} (hs : s.size = n * 256) (hn : n ≤ 256) (hX : X.size ≤ 2 ^ 30) (hN : 2 ^ 40 < N) (kN : ByteArray → Option R) :
    c_spec_PackMachine_rrrrr_0 N (n : Int) l5 l6 l7 l8 l9 n10 b5 n11 b6 b7 s n12 n13 n14 b8 b9 n15 X 0 kN = kN (nzFrames s X n) := by
  unfold c_spec_PackMachine_rrrrr_0
  obtain ⟨h1, _⟩ := fold (fun f i X => l_spec_PackMachine_rrrrr_0 N (n : Int) l5 l6 l7 l8 l9 n10 b5 n11 b6 b7 s n12 n13 n14 b8 b9 n15 kN f X i) n (fun i X => nzStep s X i) (fun i X => X.size ≤ 2 ^ 30 + 256 * i) kN (fun f i X hi hX => by
      have hw : IntKind.wrap .i64 ((i : Int) + 1) = ((i + 1 : Nat) : Int) := by rw [w64 (by omega) (by omega)]; omega
      have hfs := frame_size (s := s) (f := i) (by omega)
      rw [l_spec_PackMachine_rrrrr_0, s_spec_PackMachine_rrrrr_0, decide_eq_true (show (i : Int) < (n : Int) by omega), cond_true, spec_l06Frame_eq2 N (by omega) (by omega), spec_l06Frame_eq2 N (by omega) (by omega), g_spec_l20Zero, zeros_256, hw, show decide (frame s i = zeros 256) = frZ s i from rfl]
      unfold nzStep
      cases frZ s i with
      | true => exact ⟨rfl, by show X.size ≤ _; omega⟩
      | false =>
        refine ⟨?_, by show (X ++ frame s i).size ≤ _; rw [ByteArray.size_append, hfs]; omega⟩
        rw [Bool.not_false, cond_true, hfs, ble_t (by omega), cond_true, oK_some_eq, cond_true]) (fun f X _ => by
      rw [l_spec_PackMachine_rrrrr_0, s_spec_PackMachine_rrrrr_0, decide_eq_false (by omega), cond_false]) (s := X) (by show X.size ≤ _; omega) (f := N) (by omega)
  exact h1

theorem spec_PackMachine_r_eq {pc md st cn ln tr : Int} {b b1 b2 b3 b4 : Bool} {s : ByteArray} {l l1 l2 : List Int} {l3 l4 : List PortValue} (h1 : l.length ≤ 2 ^ 40) (h2 : l1.length ≤ 2 ^ 40) (h3 : l2.length ≤ 2 ^ 40) (hN : 2 ^ 40 < N) (k : ByteArray → Option R) :
    g_spec_PackMachine_rrrrr N pc b md b1 b2 s st cn ln b3 b4 tr l l1 l2 l3 l4 k = k (packM pc md st cn ln tr s l l1 l2 l3 l4) := by
  unfold g_spec_PackMachine_rrrrr packM
  rw [spec_MachineFault_r_eq N h1 h2 h3 hN]
  cases hok : machOk pc md st cn ln tr s l l1 l2 l3 l4 with
  | false => rfl
  | true =>
  obtain ⟨hm, g1, g2, g3, g4, g5, c0, c1, z1, z2, z3⟩ := machOk_facts hok
  obtain ⟨n, hn⟩ : ∃ n, s.size / 256 = n := ⟨_, rfl⟩
  have hsn : s.size = n * 256 := by omega
  have hn256 : n ≤ 256 := by omega
  have hfr : ∀ K : Int → Option R, g_spec_l20Frames N s K = K (n : Int) := fun K => by
    unfold g_spec_l20Frames
    rw [hsn, Int.tdiv_eq_ediv_of_nonneg (by omega), w64 (by omega) (by omega)]; congr 1; omega
  have hps := packHead_size (pc := pc) (md := md) (st := st) (cn := cn) (ln := ln) (tr := tr) (s := s) (l := l) (l1 := l1) (l2 := l2) (l3 := l3) (l4 := l4)
  obtain ⟨q1, q2, _⟩ := bset_facts (fun i => !frZ s i) n
  have hhead : packHead pc md st cn ln tr s l l1 l2 l3 l4 = vm1 ++ regsText [(n : Int), (l3.length : Int), (l4.length : Int), pc, md, st, cn, cn / 4294967296, ln, tr] ++ regsText l ++ regsText l1 ++ regsText l2 ++ portsText l3 ++ portsText l4 := by
    unfold packHead; rw [hn]
  have v4 : vm1.size = 4 := rfl
  have hbz := nzFrames_size (s := s) (X := packHead pc md st cn ln tr s l l1 l2 l3 l4 ++ toBytes (bset (fun i => !frZ s i) n)) hsn n (Nat.le_refl _)
  have hset : bset (fun i => !decide (frame s i = frame (zeros s.size) i)) n = bset (fun i => !frZ s i) n := bset_congr fun i hi => by
    have hf : frame (zeros s.size) i = zeros 256 := by
      refine bytes_ext (by rw [frame_size (by rw [zeros_size]; omega), zeros_size]) fun j hj => ?_
      rw [frame_size (by rw [zeros_size]; omega)] at hj
      unfold frame
      rw [bt_extract (by omega), bt_zeros, bt_zeros]
    rw [hf]; rfl
  have hfd : Int.fdiv cn 4294967296 = cn / 4294967296 := fdiv_lit _ (by omega)
  rw [cond_true, bne_self_eq_false, cond_false, hfr, hfd, spec_l20Words_r_eq N (by simp) hN, show (ByteArray.mk (List.toArray [(86 : UInt8), (77 : UInt8), (49 : UInt8), (10 : UInt8)])) = vm1 from rfl]
  have e1 : ∀ a b c d e f g h i j : Int, (regsText [a, b, c, d, e, f, g, h, i, j]).size = 40 := fun a b c d e f g h i j => by rw [regsText_size]; rfl
  have e2 : (regsText l).size = 64 := by rw [regsText_size]; omega
  have e3 : (regsText l1).size = 48 := by rw [regsText_size]; omega
  have e4 : (regsText l2).size = 64 := by rw [regsText_size]; omega
  have e5 := portsText_size l3
  have e6 := portsText_size l4
  have ez : (toBytes (bset (fun i => !frZ s i) n)).size = (n + 7) / 8 := by rw [toBytes_size, q2]
  rw [e1, ble_t (by omega), cond_true, spec_l20Words_r_eq N (by omega) hN, ByteArray.size_append, e1, v4, e2, ble_t (by omega), cond_true, spec_l20Words_r_eq N (by omega) hN, ByteArray.size_append, ByteArray.size_append, e1, v4, e2, e3, ble_t (by omega), cond_true, spec_l20Words_r_eq N (by omega) hN, ByteArray.size_append, ByteArray.size_append, ByteArray.size_append, e1, v4, e2, e3, e4, ble_t (by omega), cond_true,
    spec_l20Ports_r_eq N (by omega) hN, ByteArray.size_append, ByteArray.size_append, ByteArray.size_append, ByteArray.size_append, e1, v4, e2, e3, e4, e5, ble_t (by omega), cond_true, spec_l20Ports_r_eq N (by omega) hN, ByteArray.size_append, ByteArray.size_append, ByteArray.size_append, ByteArray.size_append, ByteArray.size_append, e1, v4, e2, e3, e4, e5, e6, ble_t (by omega), cond_true,
    dec_self, Bool.and_true, Int.toNat_natCast, room (by omega) (by omega), Bool.and_true, cond_true, Nat.zero_add, ble_t (Nat.le_refl _), cond_true, zeros_def, spec_l20Set_eq N hsn (by rw [zeros_size]; exact hsn) hn256 hN, hset, ← hhead, hps, ez, ble_t (by omega), cond_true]
  refine (spec_frames_r_go N hsn hn256 (by rw [ByteArray.size_append, hps, ez]; omega) hN _).trans ?_
  have hb : packBody pc md st cn ln tr s l l1 l2 l3 l4 = nzFrames s (packHead pc md st cn ln tr s l l1 l2 l3 l4 ++ toBytes (bset (fun i => !frZ s i) n)) n := by unfold packBody; rw [hn]
  rw [← hb]
  rw [← hb, ByteArray.size_append, hps, ez] at hbz
  generalize packBody pc md st cn ln tr s l l1 l2 l3 l4 = B at hbz
  rw [w64 (by omega) (by omega), cond_true]
  by_cases hbig : (B.size : Int) + 4 > 65536
  · rw [decide_eq_true hbig]; rfl
  · rw [decide_eq_false hbig, cond_false, cond_false, spec_Mix_eq N hN, decide_eq_false (by omega), cond_false, spec_PutWord_eq, putWord_size, ble_t (by omega), cond_true]

def setFr (X : ByteArray) (f : Nat) : ByteArray := (X.extract 0 (f * 256) ++ zeros 256) ++ X.extract (f * 256 + 256) X.size

theorem setFr_size {X : ByteArray} {f : Nat} (h : f * 256 + 256 ≤ X.size) : (setFr X f).size = X.size := by
  unfold setFr
  rw [ByteArray.size_append, ByteArray.size_append, zeros_size, ByteArray.size_extract, ByteArray.size_extract]; omega

theorem ofBytes_zeros (n : Nat) : ofBytes (zeros n) = List.replicate n 0 := by
  unfold zeros
  rw [ofBytes_toBytes (BL_zeros n)]

theorem ofBytes_setFr {X : ByteArray} {f : Nat} (h : f * 256 + 256 ≤ X.size) : ofBytes (setFr X f) = Go.Eng.splice (ofBytes X) (f * 256) (List.replicate 256 0) := by
  have hl := ofBytes_length X
  unfold setFr
  rw [Go.Eng.splice_eq _ _ _ (by rw [List.length_replicate, hl]; exact h), ofBytes_append, ofBytes_append, ofBytes_extract, ofBytes_extract, ofBytes_zeros, List.drop_zero, List.length_replicate, ← hl, List.take_length]

theorem spec_l06SetFrame_eq {X : ByteArray} {f : Nat} (h : f * 256 + 256 ≤ X.size) (hs : X.size ≤ 2 ^ 40) (k : ByteArray → Option R) : g_spec_l06SetFrame N X (f : Int) (zeros 256) k = k (setFr X f) := by
  unfold g_spec_l06SetFrame
  have e1 : IntKind.wrap .i64 ((f : Int) * 256) = ((f * 256 : Nat) : Int) := by rw [w64 (by omega) (by omega)]; omega
  have e2 : IntKind.wrap .i64 (IntKind.wrap .i64 ((f : Int) + 1) * 256) = ((f * 256 + 256 : Nat) : Int) := by rw [w64 (n := (f : Int) + 1) (by omega) (by omega), w64 (by omega) (by omega)]; omega
  rw [e1, e2, dec_nn, decide_eq_true (show ((f * 256 : Nat) : Int) ≤ (X.size : Int) by omega), Bool.and_self, cond_true, zeros_size, Int.toNat_natCast, ble_t (by rw [ByteArray.size_extract]; omega), cond_true, dec_nn, decide_eq_true (show ((f * 256 + 256 : Nat) : Int) ≤ (X.size : Int) by omega), decide_eq_true (show (X.size : Int) ≤ (X.size : Int) by omega), Bool.and_self, Bool.and_self, cond_true, Int.toNat_natCast, Int.toNat_natCast,
    ble_t (by rw [ByteArray.size_append, zeros_size, ByteArray.size_extract, ByteArray.size_extract]; omega), cond_true]
  rfl

def dStep (a b X : ByteArray) (i : Nat) : ByteArray := cond (decide (frame a i = frame b i)) (setFr X i) X

def deltaMem (a b : ByteArray) (n : Nat) : ByteArray := (List.range n).foldl (dStep a b) b

theorem dStep_size {a b X : ByteArray} {i : Nat} (h : i * 256 + 256 ≤ X.size) : (dStep a b X i).size = X.size := by
  unfold dStep
  cases decide (frame a i = frame b i)
  · rfl
  · exact setFr_size h

theorem spec_delta_go {a b : ByteArray} {n : Nat} {n17 n18 n19 n20 n21 n22 n23 n24 n25 n26 n27 n28 n29 n30 n31 n32 n33 n34 : Int} {b10 b11 b12 b13 b14 b15 b16 b17 b18 b19 b20 b21 b22 b23 b24 : Bool} {l10 l11 l12 l15 l16 l17 : List Int} {l13 l14 l18 l19 : List PortValue} (ha : a.size = n * 256) (hb : b.size = n * 256) (hn : n ≤ 256) (hN : 2 ^ 40 < N) (kN : ByteArray → Option R) :
    c_spec_DeltaOf_rrrrrrrrrr_0 N (n : Int) l10 l11 l12 l13 l14 l15 l16 l17 l18 l19 n17 b10 n18 b11 b12 a n19 n20 n21 b13 b14 n22 n23 b15 n24 b16 b17 b n25 n26 n27 b18 b19 n28 n29 b20 n30 b21 b22 n31 n32 n33 b23 b24 n34 0 b kN = kN (deltaMem a b n) ∧ (deltaMem a b n).size = n * 256 := by
  unfold c_spec_DeltaOf_rrrrrrrrrr_0
  exact fold (fun f i X => l_spec_DeltaOf_rrrrrrrrrr_0 N (n : Int) l10 l11 l12 l13 l14 l15 l16 l17 l18 l19 n17 b10 n18 b11 b12 a n19 n20 n21 b13 b14 n22 n23 b15 n24 b16 b17 b n25 n26 n27 b18 b19 n28 n29 b20 n30 b21 b22 n31 n32 n33 b23 b24 n34 kN f i X) n (fun i X => dStep a b X i) (fun _ X => X.size = n * 256) kN (fun f i X hi hX => by
      have hw : IntKind.wrap .i64 ((i : Int) + 1) = ((i + 1 : Nat) : Int) := by rw [w64 (by omega) (by omega)]; omega
      refine ⟨?_, by rw [dStep_size (by omega)]; exact hX⟩
      rw [l_spec_DeltaOf_rrrrrrrrrr_0, s_spec_DeltaOf_rrrrrrrrrr_0, decide_eq_true (show (i : Int) < (n : Int) by omega), cond_true, spec_l06Frame_eq2 N (by omega) (by omega), spec_l06Frame_eq2 N (by omega) (by omega), hw]
      unfold dStep
      cases decide (frame a i = frame b i) with
      | true => rw [cond_true, cond_true, g_spec_l20Zero, zeros_256, spec_l06SetFrame_eq N (by omega) (by omega)]
      | false => rw [cond_false, cond_false]) (fun f X _ => by
      rw [l_spec_DeltaOf_rrrrrrrrrr_0, s_spec_DeltaOf_rrrrrrrrrr_0, decide_eq_false (by omega), cond_false]) (s := b) hb (f := N) (by omega)

theorem impl_delta_1_eq {a b X : ByteArray} {i : Nat} {n1 n2 n3 n4 n5 n6 n7 n8 n9 n10 n11 n12 : Int} {b0 b1 b2 b3 b4 b5 b6 b7 b8 b9 b10 : Bool} {l l1 l2 l5 l6 l7 : List Int} {l3 l4 l8 l9 : List PortValue} (ha : i * 256 + 256 ≤ a.size) (hb : i * 256 + 256 ≤ b.size) (hX : i * 256 + 256 ≤ X.size) (hs : i ≤ 2 ^ 30) (k : Bool → List Int → Option R) :
    g_impl_DeltaOf_1_WWWwwwwwwwwwww N (i : Int) n1 b0 n2 b1 b2 a n3 n4 n5 b3 b4 n6 n7 b5 n8 b6 b7 b n9 n10 n11 b8 b9 n12 b10 l l1 l2 l3 l4 l5 l6 l7 l8 l9 (ofBytes X) k = k (!decide (frame a i = frame b i)) (ofBytes (dStep a b X i)) := by
  have e1 : IntKind.wrap .i64 ((i : Int) * 256) = ((i * 256 : Nat) : Int) := by rw [w64 (by omega) (by omega)]; omega
  have e2 : IntKind.wrap .i64 (IntKind.wrap .i64 ((i : Int) + 1) * 256) = ((i * 256 + 256 : Nat) : Int) := by rw [w64 (n := (i : Int) + 1) (by omega) (by omega), w64 (by omega) (by omega)]; omega
  have hl := ofBytes_length X
  have hfa : a.extract (i * 256) (i * 256 + 256) = frame a i := rfl
  have hfb : b.extract (i * 256) (i * 256 + 256) = frame b i := rfl
  have hsub : i * 256 + 256 - i * 256 = 256 := by omega
  unfold g_impl_DeltaOf_1_WWWwwwwwwwwwww dStep
  rw [e1, e2, dec_nn, decide_eq_true (show ((i * 256 : Nat) : Int) ≤ ((i * 256 + 256 : Nat) : Int) by omega), decide_eq_true (show ((i * 256 + 256 : Nat) : Int) ≤ (a.size : Int) by omega), Bool.and_self, Bool.and_self, cond_true, decide_eq_true (show ((i * 256 + 256 : Nat) : Int) ≤ (b.size : Int) by omega), Bool.and_self, cond_true, Int.toNat_natCast, Int.toNat_natCast, hfa, hfb, hl, decide_eq_true (show ((i * 256 + 256 : Nat) : Int) ≤ (X.size : Int) by omega), Bool.and_self, hsub, List.length_replicate, ble_t hX, cond_true, cond_true, ← ofBytes_setFr hX]
  cases decide (frame a i = frame b i) <;> rfl

theorem impl_delta_set_eq {a b : ByteArray} {n : Nat} {n1 n2 n3 n4 n5 n6 n7 n8 n9 n10 n11 n12 : Int} {b0 b1 b2 b3 b4 b5 b6 b7 b8 b9 b10 : Bool} {l l1 l2 l5 l6 l7 : List Int} {l3 l4 l8 l9 : List PortValue} (ha : a.size = n * 256) (hb : b.size = n * 256) (hn : n ≤ 256) (hN : 2 ^ 40 < N) (k : ByteArray → List Int → Option R) :
    g_impl_yframeSet_Fimpl_DeltaOf_1_WWWwwwwwwwwwww N (n : Int) n1 b0 n2 b1 b2 a n3 n4 n5 b3 b4 n6 n7 b5 n8 b6 b7 b n9 n10 n11 b8 b9 n12 b10 l l1 l2 l3 l4 l5 l6 l7 l8 l9 (ofBytes b) k = k (toBytes (bset (fun i => !decide (frame a i = frame b i)) n)) (ofBytes (deltaMem a b n)) := by
  unfold g_impl_yframeSet_Fimpl_DeltaOf_1_WWWwwwwwwwwwww
  rw [set_start n hn, dec_self, dec_nn, Int.toNat_natCast, room (by omega) (by omega), Bool.and_self, Bool.and_self, cond_true]
  unfold c_impl_yframeSet_Fimpl_DeltaOf_1_WWWwwwwwwwwwww_0
  have key := fun (kN : List Int → List Int → Option R) => fold (fun f i (st : List Int × ByteArray) => l_impl_yframeSet_Fimpl_DeltaOf_1_WWWwwwwwwwwwww_0 N false (n : Int) n1 b0 n2 b1 b2 a n3 n4 n5 b3 b4 n6 n7 b5 n8 b6 b7 b n9 n10 n11 b8 b9 n12 b10 l l1 l2 l3 l4 l5 l6 l7 l8 l9 kN f i (ofBytes st.2) st.1) n (fun i st => (bstep (fun i => !decide (frame a i = frame b i)) st.1 i, dStep a b st.2 i)) (fun _ st => (BL st.1 ∧ st.1.length = (n + 7) / 8) ∧ st.2.size = n * 256) (fun st => kN (ofBytes st.2) st.1) (fun f i st hi hI => by
      obtain ⟨L, X⟩ := st
      obtain ⟨⟨q1, q2⟩, hX⟩ := hI
      dsimp only at q1 q2 hX ⊢
      have hst := bstep_facts (p := fun i => !decide (frame a i = frame b i)) q1 i
      refine ⟨?_, ⟨hst.1, by rw [hst.2, q2]⟩, by rw [dStep_size (by omega)]; exact hX⟩
      have hw : IntKind.wrap .i64 ((i : Int) + 1) = ((i + 1 : Nat) : Int) := by rw [w64 (by omega) (by omega)]; omega
      rw [l_impl_yframeSet_Fimpl_DeltaOf_1_WWWwwwwwwwwwww_0, s_impl_yframeSet_Fimpl_DeltaOf_1_WWWwwwwwwwwwww_0, decide_eq_true (show (i : Int) < (n : Int) by omega), cond_true, impl_delta_1_eq N (by omega) (by omega) (by omega) (by omega), hw]
      cases hd : decide (frame a i = frame b i) with
      | true =>
        have hb : bstep (fun i => !decide (frame a i = frame b i)) L i = L := by unfold bstep; dsimp only; rw [hd]; rfl
        rw [Bool.not_true, cond_false, hb]
      | false =>
        have hb : bstep (fun i => !decide (frame a i = frame b i)) L i = obit L i := by unfold bstep; dsimp only; rw [hd]; rfl
        rw [Bool.not_false, cond_true, hb]
        exact impl_set_step q1 (by omega) (by omega) (fun M => l_impl_yframeSet_Fimpl_DeltaOf_1_WWWwwwwwwwwwww_0 N false (n : Int) n1 b0 n2 b1 b2 a n3 n4 n5 b3 b4 n6 n7 b5 n8 b6 b7 b n9 n10 n11 b8 b9 n12 b10 l l1 l2 l3 l4 l5 l6 l7 l8 l9 kN f ((i + 1 : Nat) : Int) (ofBytes (dStep a b X i)) M)) (fun f st _ => by
      rw [l_impl_yframeSet_Fimpl_DeltaOf_1_WWWwwwwwwwwwww_0, s_impl_yframeSet_Fimpl_DeltaOf_1_WWWwwwwwwwwwww_0, decide_eq_false (by omega), cond_false]) (s := (List.replicate ((n + 7) / 8) 0, b)) ⟨⟨BL_zeros _, List.length_replicate⟩, hb⟩ (f := N) (by omega)
  have hp : ∀ (m : Nat) (st : List Int × ByteArray), (List.range m).foldl (fun st i => (bstep (fun i => !decide (frame a i = frame b i)) st.1 i, dStep a b st.2 i)) st = ((List.range m).foldl (bstep (fun i => !decide (frame a i = frame b i))) st.1, (List.range m).foldl (dStep a b) st.2) := by
    intro m
    induction m with
    | zero => intro st; rfl
    | succ m ih => intro st; rw [List.range_succ, List.foldl_append, List.foldl_append, List.foldl_append, ih]; rfl
  obtain ⟨h1, _⟩ := key (fun l24 l25 => (cond (Nat.ble (0 + (List.length l25)) (List.length l25)) (k (toBytes (seg l25 0 (List.length l25))) l24) none))
  rw [hp] at h1
  refine h1.trans ?_
  rw [Nat.zero_add, ble_t (Nat.le_refl _), cond_true, seg_all]
  rfl


def vd1 : ByteArray := ⟨[(86 : UInt8), (68 : UInt8), (49 : UInt8), (10 : UInt8)].toArray⟩

def deltaTail (a b p : ByteArray) : ByteArray :=
  cond (decide (p = ⟨[].toArray⟩)) ⟨[].toArray⟩ (cond (decide (((((vd1 ++ putWord (mix a 62)) ++ toBytes (bset (fun i => !decide (frame a i = frame b i)) (a.size / 256))) ++ p).size : Int) > 65536)) ⟨[].toArray⟩ (((vd1 ++ putWord (mix a 62)) ++ toBytes (bset (fun i => !decide (frame a i = frame b i)) (a.size / 256))) ++ p))

def deltaOut (pc md st cn ln tr pc' md' st' cn' ln' tr' : Int) (a b : ByteArray) (l l1 l2 : List Int) (l3 l4 : List PortValue) (l5 l6 l7 : List Int) (l8 l9 : List PortValue) : ByteArray :=
  cond (cond (machOk pc md st cn ln tr a l l1 l2 l3 l4) (cond (machOk pc' md' st' cn' ln' tr' b l5 l6 l7 l8 l9) ((a.size : Int) != (b.size : Int)) true) true) ⟨[].toArray⟩
    (deltaTail a b (packM pc' md' st' cn' ln' tr' (deltaMem a b (a.size / 256)) l5 l6 l7 l8 l9))

theorem packM_size (pc md st cn ln tr : Int) (s : ByteArray) (l l1 l2 : List Int) (l3 l4 : List PortValue) : (packM pc md st cn ln tr s l l1 l2 l3 l4).size ≤ 65536 := by
  unfold packM
  cases machOk pc md st cn ln tr s l l1 l2 l3 l4 with
  | false => show (0 : Nat) ≤ _; omega
  | true =>
    rw [cond_true]
    by_cases h : ((packBody pc md st cn ln tr s l l1 l2 l3 l4).size : Int) + 4 > 65536
    · rw [decide_eq_true h]; show (0 : Nat) ≤ _; omega
    · rw [decide_eq_false h, cond_false, ByteArray.size_append, putWord_size]; omega

theorem spec_DeltaOf_eq {pc md st cn ln tr pc' md' st' cn' ln' tr' : Int} {b0 b1 b2 b3 b4 b5 b6 b7 b8 b9 : Bool} {a b : ByteArray} {l l1 l2 l5 l6 l7 : List Int} {l3 l4 l8 l9 : List PortValue} (h1 : l.length ≤ 2 ^ 40) (h2 : l1.length ≤ 2 ^ 40) (h3 : l2.length ≤ 2 ^ 40) (h4 : l5.length ≤ 2 ^ 40) (h5 : l6.length ≤ 2 ^ 40) (h6 : l7.length ≤ 2 ^ 40) (hN : 2 ^ 40 < N) (k : ByteArray → Option R) :
    g_spec_DeltaOf_rrrrrrrrrr N pc b0 md b1 b2 a st cn ln b3 b4 tr pc' b5 md' b6 b7 b st' cn' ln' b8 b9 tr' l l1 l2 l3 l4 l5 l6 l7 l8 l9 k = k (deltaOut pc md st cn ln tr pc' md' st' cn' ln' tr' a b l l1 l2 l3 l4 l5 l6 l7 l8 l9) := by
  unfold g_spec_DeltaOf_rrrrrrrrrr deltaOut
  rw [spec_MachineFault_r_eq N h1 h2 h3 hN]
  cases hok : machOk pc md st cn ln tr a l l1 l2 l3 l4 with
  | false => rfl
  | true =>
  rw [cond_true, bne_self_eq_false, cond_false, spec_MachineFault_r_eq N h4 h5 h6 hN, cond_true]
  cases hok2 : machOk pc' md' st' cn' ln' tr' b l5 l6 l7 l8 l9 with
  | false => rfl
  | true =>
  rw [cond_true, bne_self_eq_false, cond_false, oK_some_eq, cond_true]
  cases hne : ((a.size : Int) != (b.size : Int)) with
  | true => rfl
  | false =>
  have hab : a.size = b.size := by have : (a.size : Int) = (b.size : Int) := by simpa using hne
                                   omega
  obtain ⟨_, _, _, _, _, _, _, _, z1, z2, z3⟩ := machOk_facts hok
  obtain ⟨n, hn⟩ : ∃ n, a.size / 256 = n := ⟨_, rfl⟩
  have ha : a.size = n * 256 := by omega
  have hb : b.size = n * 256 := by omega
  have hn256 : n ≤ 256 := by omega
  have hfr : ∀ K : Int → Option R, g_spec_l20Frames N a K = K (n : Int) := fun K => by
    unfold g_spec_l20Frames
    rw [ha, Int.tdiv_eq_ediv_of_nonneg (by omega), w64 (by omega) (by omega)]; congr 1; omega
  rw [cond_false, cond_false, hfr, hn]
  obtain ⟨_, hds⟩ := spec_delta_go (R := R) N (a := a) (b := b) (n17 := 0) (n18 := 0) (n19 := 0) (n20 := 0) (n21 := 0) (n22 := 0) (n23 := 0) (n24 := 0) (n25 := 0) (n26 := 0) (n27 := 0) (n28 := 0) (n29 := 0) (n30 := 0) (n31 := 0) (n32 := 0) (n33 := 0) (n34 := 0) (b10 := false) (b11 := false) (b12 := false) (b13 := false) (b14 := false) (b15 := false) (b16 := false) (b17 := false) (b18 := false) (b19 := false) (b20 := false) (b21 := false) (b22 := false) (b23 := false) (b24 := false) (l10 := []) (l11 := []) (l12 := []) (l13 := []) (l14 := []) (l15 := []) (l16 := []) (l17 := []) (l18 := []) (l19 := []) ha hb hn256 hN (fun _ => none)
  refine (spec_delta_go N ha hb hn256 hN _).1.trans ?_
  rw [spec_PackMachine_r_eq N h4 h5 h6 hN]
  have hps := packM_size pc' md' st' cn' ln' tr' (deltaMem a b n) l5 l6 l7 l8 l9
  generalize packM pc' md' st' cn' ln' tr' (deltaMem a b n) l5 l6 l7 l8 l9 = p at hps
  obtain ⟨q1, q2, _⟩ := bset_facts (fun i => !decide (frame a i = frame b i)) n
  have ez : (toBytes (bset (fun i => !decide (frame a i = frame b i)) n)).size = (n + 7) / 8 := by rw [toBytes_size, q2]
  have v4 : vd1.size = 4 := rfl
  unfold deltaTail
  rw [hn]
  cases hd : decide (p = ⟨[].toArray⟩) with
  | true => rfl
  | false =>
  rw [cond_false, cond_false, spec_Mix_eq N hN, decide_eq_false (show ¬ (a.size : Int) > 65536 by omega), cond_false, spec_PutWord_eq, putWord_size, show Nat.ble (4 + 4) 9223372036854775807 = true from rfl, cond_true, spec_l20Set_eq N ha hb hn256 hN, show (ByteArray.mk (List.toArray [(86 : UInt8), (68 : UInt8), (49 : UInt8), (10 : UInt8)])) = vd1 from rfl,
    ByteArray.size_append, v4, putWord_size, ez, ble_t (by omega), cond_true, ByteArray.size_append, ByteArray.size_append, v4, putWord_size, ez, ble_t (by omega), cond_true]
  exact cond_app _ k _ _

theorem impl_DeltaOf_eq {pc md st cn ln tr pc' md' st' cn' ln' tr' : Int} {b0 b1 b2 b3 b4 b5 b6 b7 b8 b9 : Bool} {a b : ByteArray} {l l1 l2 l5 l6 l7 : List Int} {l3 l4 l8 l9 : List PortValue} (h1 : l.length ≤ 2 ^ 40) (h2 : l1.length ≤ 2 ^ 40) (h3 : l2.length ≤ 2 ^ 40) (h4 : l5.length ≤ 2 ^ 40) (h5 : l6.length ≤ 2 ^ 40) (h6 : l7.length ≤ 2 ^ 40) (hN : 2 ^ 40 < N) (k : ByteArray → List Int → List Int → List Int → Option R) :
    g_impl_DeltaOf_wwwwwwwwww N pc b0 md b1 b2 a st cn ln b3 b4 tr pc' b5 md' b6 b7 b st' cn' ln' b8 b9 tr' l l1 l2 l3 l4 l5 l6 l7 l8 l9 k = k (deltaOut pc md st cn ln tr pc' md' st' cn' ln' tr' a b l l1 l2 l3 l4 l5 l6 l7 l8 l9) l5 l6 l7 := by
  unfold g_impl_DeltaOf_wwwwwwwwww deltaOut
  rw [impl_MachineFault_r_eq N h1 h2 h3 hN]
  cases hok : machOk pc md st cn ln tr a l l1 l2 l3 l4 with
  | false => rfl
  | true =>
  rw [cond_true, bne_self_eq_false, cond_false, impl_MachineFault_r_eq N h4 h5 h6 hN, cond_true]
  cases hok2 : machOk pc' md' st' cn' ln' tr' b l5 l6 l7 l8 l9 with
  | false => rfl
  | true =>
  rw [cond_true, bne_self_eq_false, cond_false, oK_some_eq, cond_true]
  cases hne : ((a.size : Int) != (b.size : Int)) with
  | true => rfl
  | false =>
  have hab : a.size = b.size := by have : (a.size : Int) = (b.size : Int) := by simpa using hne
                                   omega
  obtain ⟨_, _, _, _, _, _, _, _, z1, z2, z3⟩ := machOk_facts hok
  obtain ⟨n, hn⟩ : ∃ n, a.size / 256 = n := ⟨_, rfl⟩
  have ha : a.size = n * 256 := by omega
  have hb : b.size = n * 256 := by omega
  have hn256 : n ≤ 256 := by omega
  have ef : IntKind.wrap .i64 (Int.tdiv (a.size : Int) 256) = (n : Int) := by rw [Int.tdiv_eq_ediv_of_nonneg (by omega), w64 (by omega) (by omega)]; omega
  rw [cond_false, cond_false, ef, impl_delta_set_eq N ha hb hn256 hN, hn, Nat.zero_add, ble_t (Nat.le_refl _), cond_true, seg_all, toBytes_ofBytes, impl_PackMachine_eq N h4 h5 h6 hN, impl_ymix_eq N (by omega) hN, impl_PutWord_eq]
  have hps := packM_size pc' md' st' cn' ln' tr' (deltaMem a b n) l5 l6 l7 l8 l9
  generalize packM pc' md' st' cn' ln' tr' (deltaMem a b n) l5 l6 l7 l8 l9 = p at hps
  obtain ⟨q1, q2, _⟩ := bset_facts (fun i => !decide (frame a i = frame b i)) n
  have ez : (toBytes (bset (fun i => !decide (frame a i = frame b i)) n)).size = (n + 7) / 8 := by rw [toBytes_size, q2]
  have v4 : vd1.size = 4 := rfl
  unfold deltaTail
  rw [hn, show (ByteArray.mk (List.toArray [(86 : UInt8), (68 : UInt8), (49 : UInt8), (10 : UInt8)])) = vd1 from rfl]
  generalize toBytes (bset (fun i => !decide (frame a i = frame b i)) n) = t at ez
  have hcat : catB [vd1, putWord (mix a 62), t, p] = vd1 ++ putWord (mix a 62) ++ t ++ p := by
    show vd1 ++ (putWord (mix a 62) ++ (t ++ (p ++ (⟨[].toArray⟩ : ByteArray)))) = _
    rw [ba_append_empty, ByteArray.append_assoc, ByteArray.append_assoc]
  rw [impl_yjoinw_eq N (by simp) (by rw [hcat, ByteArray.size_append, ByteArray.size_append, ByteArray.size_append, v4, putWord_size, ez]; omega), hcat]
  cases hd : decide (p = ⟨[].toArray⟩) with
  | true => rfl
  | false =>
  rw [cond_false, oK_some_eq, cond_false]
  exact cond_app _ (fun x => k x l5 l6 l7) _ _

theorem law_DeltaOf {pc md st cn ln tr pc' md' st' cn' ln' tr' : Int} {b0 b1 b2 b3 b4 b5 b6 b7 b8 b9 : Bool} {a b : ByteArray} {l l1 l2 l5 l6 l7 : List Int} {l3 l4 l8 l9 : List PortValue} (h1 : l.length ≤ maxLen) (h2 : l1.length ≤ maxLen) (h3 : l2.length ≤ maxLen) (hs : a.size ≤ maxLen) (h4 : l3.length ≤ maxLen) (h5 : l4.length ≤ maxLen)
    (g1 : l5.length ≤ maxLen) (g2 : l6.length ≤ maxLen) (g3 : l7.length ≤ maxLen) (gs : b.size ≤ maxLen) (g4 : l8.length ≤ maxLen) (g5 : l9.length ≤ maxLen) (hN : 2 ^ 40 < N) (k : Bool → Option R) :
    g_laws_FnExactDeltaOf_rrrrrrrrrr N pc b0 md b1 b2 a st cn ln b3 b4 tr pc' b5 md' b6 b7 b st' cn' ln' b8 b9 tr' l l1 l2 l3 l4 l5 l6 l7 l8 l9 k = k true := by
  unfold g_laws_FnExactDeltaOf_rrrrrrrrrr
  obtain ⟨v, hv, hsz⟩ := szMachine_eq N (R := R) (pc := pc) (md := md) (st := st) (cn := cn) (ln := ln) (tr := tr) (n := 1048576) (b := b0) (b1 := b1) (b2 := b2) (b3 := b3) (b4 := b4) (by omega) h1 h2 h3 hs h4 h5
  rw [hsz]
  rcases hv with hv | ⟨v0, v1, a1, a2, a3, a4, a5, a6⟩
  · rw [decide_eq_true hv]; rfl
  rw [decide_eq_false (show ¬ v < 0 by omega), cond_false]
  obtain ⟨u, hu, hsu⟩ := szMachine_eq N (R := R) (pc := pc') (md := md') (st := st') (cn := cn') (ln := ln') (tr := tr') (n := v) (b := b5) (b1 := b6) (b2 := b7) (b3 := b8) (b4 := b9) (by omega) g1 g2 g3 gs g4 g5
  rw [hsu]
  rcases hu with hu | ⟨u0, _, c1, c2, c3, c4, c5, c6⟩
  · rw [decide_eq_true hu]; rfl
  rw [decide_eq_false (show ¬ u < 0 by omega), cond_false]
  have t1 := fun K => toMachine_eq N (R := R) (pc := pc) (md := md) (st := st) (cn := cn) (ln := ln) (tr := tr) (b := b0) (b1 := b1) (b2 := b2) (b3 := b3) (b4 := b4) (s := a) (l := l) (l1 := l1) (l2 := l2) (l3 := l3) (l4 := l4) (by omega) (by omega) (by omega) (by omega) (by omega) hN K
  have t2 := fun K => toMachine_eq N (R := R) (pc := pc') (md := md') (st := st') (cn := cn') (ln := ln') (tr := tr') (b := b5) (b1 := b6) (b2 := b7) (b3 := b8) (b4 := b9) (s := b) (l := l5) (l1 := l6) (l2 := l7) (l3 := l8) (l4 := l9) (by omega) (by omega) (by omega) (by omega) (by omega) hN K
  rw [t1, t2, spec_DeltaOf_eq N (by omega) (by omega) (by omega) (by omega) (by omega) (by omega) hN, t1, t2, impl_DeltaOf_eq N (by omega) (by omega) (by omega) (by omega) (by omega) (by omega) hN, decide_eq_true rfl, Bool.not_true, cond_false, t1, eqMachine_self_r N (by omega) (by omega) (by omega) (by omega) (by omega) hN, Bool.not_true, cond_false, t2, eqMachine_self_r N (by omega) (by omega) (by omega) (by omega) (by omega) hN, Bool.not_true, cond_false]

end
end Go.Sa
