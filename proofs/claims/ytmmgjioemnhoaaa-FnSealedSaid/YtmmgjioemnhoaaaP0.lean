import Derived.Test.YtmmgjioemnhoaaaW5
set_option linter.all false
namespace Go.Sa
open Go Go.Eng
section
variable {R : Type} (N : Nat)
variable {R : Type}

@[simp] theorem impl_yin_eq (a lo hi : Int) (k : Bool → Option R) : g_impl_yin N a lo hi k = k (decide (a ≥ lo) && decide (a ≤ hi)) := by
  simp [g_impl_yin]

@[simp] theorem impl_yisWord_eq (a : Int) (k : Bool → Option R) : g_impl_yisWord N a k = k (decide (a ≥ 0) && decide (a < 4294967296)) := by
  simp [g_impl_yisWord]

@[simp] theorem spec_l01IsWord_eq (a : Int) (k : Bool → Option R) : g_spec_l01IsWord N a k = k (decide (a ≥ 0) && decide (a < 4294967296)) := by
  simp [g_spec_l01IsWord]

def word (n : Int) : Int := n % 4294967296

def putWord (n : Int) : ByteArray := toBytes [word n % 256, word n / 256 % 256, word n / 65536 % 256, word n / 16777216 % 256]

theorem putWord_size (n : Int) : (putWord n).size = 4 := toBytes_size _

theorem impl_PutWord_eq (n : Int) (k : ByteArray → Option R) : g_impl_PutWord N n k = k (putWord n) := by
  simp only [g_impl_PutWord, Go.Eng.wu8, wu32, fdiv_lit _ (show (0 : Int) ≤ 256 by omega), fdiv_lit _ (show (0 : Int) ≤ 65536 by omega), fdiv_lit _ (show (0 : Int) ≤ 16777216 by omega), seg_all]
  rfl

theorem spec_l01Mod_eq {n m : Int} (hm : 0 < m) (hm2 : m ≤ 2 ^ 62) (k : Int → Option R) : g_spec_l01Mod N n m k = k (n % m) := by
  unfold g_spec_l01Mod
  obtain ⟨h1, h2⟩ := tmod_bound (n := n) hm
  rw [show (m == 0) = false by rw [beq_dec]; exact decide_eq_false (by omega), ← tmod_add (n := n) hm]
  by_cases h : n.tmod m < 0
  · rw [decide_eq_true h, if_pos h, w64 (by omega) (by omega)]; rfl
  · rw [decide_eq_false h, if_neg h]; rfl

theorem impl_ymod_eq {n m : Int} (hm : 0 < m) (hm2 : m ≤ 2 ^ 62) (k : Int → Option R) : g_impl_ymod N n m k = k (n % m) := by
  unfold g_impl_ymod
  obtain ⟨h1, h2⟩ := tmod_bound (n := n) hm
  rw [show (m == 0) = false by rw [beq_dec]; exact decide_eq_false (by omega), ← tmod_add (n := n) hm]
  by_cases h : n.tmod m < 0
  · rw [decide_eq_true h, if_pos h, w64 (by omega) (by omega)]; rfl
  · rw [decide_eq_false h, if_neg h]; rfl

theorem spec_Word_eq (n : Int) (k : Int → Option R) : g_spec_Word N n k = k (word n) := by
  unfold g_spec_Word
  rw [spec_l01Mod_eq N (by omega) (by omega)]
  rfl

theorem spec_PutWord_eq (n : Int) (k : ByteArray → Option R) : g_spec_PutWord N n k = k (putWord n) := by
  simp only [g_spec_PutWord, spec_Word_eq, Go.Eng.wu8, fdiv_lit _ (show (0 : Int) ≤ 256 by omega), fdiv_lit _ (show (0 : Int) ≤ 65536 by omega), fdiv_lit _ (show (0 : Int) ≤ 16777216 by omega), seg_all]
  rfl


/-- Texts, one behind the other. -/
def catB : List ByteArray → ByteArray
  | [] => ⟨[].toArray⟩
  | x :: l => x ++ catB l

theorem ba_append_empty (x : ByteArray) : x ++ (⟨[].toArray⟩ : ByteArray) = x := by
  apply ByteArray.ext
  simp

theorem join_flatten : ∀ xs : List (List UInt8), Lib.join xs [] = xs.flatten
  | [] => rfl
  | x :: r => by
    rw [Lib.join_cons, List.flatten_cons]
    unfold Lib.joinTail
    simp

theorem catB_toList : ∀ l : List ByteArray, (catB l).data.toList = (l.map (·.data.toList)).flatten
  | [] => rfl
  | x :: l => by
    simp only [catB, List.map_cons, List.flatten_cons, ← catB_toList l]
    simp

theorem joinB_cat (l : List ByteArray) : joinB l ⟨[].toArray⟩ = catB l := by
  unfold joinB
  apply ByteArray.ext
  apply Array.ext'
  show Lib.join (l.map (·.data.toList)) [] = _
  rw [join_flatten, catB_toList]

theorem joinOk_cat {l : List ByteArray} (h1 : l.length ≤ 2 ^ 40) (h2 : (catB l).size ≤ 2 ^ 40) : joinOk l ⟨[].toArray⟩ = true := by
  unfold joinOk
  have h3 : (Lib.join (l.map (·.data.toList)) (⟨[].toArray⟩ : ByteArray).data.toList).length = (catB l).size := by
    show (Lib.join (l.map (·.data.toList)) []).length = _
    rw [join_flatten, ← catB_toList]
    rfl
  rw [h3, ble_t (by omega), ble_t (by omega)]
  rfl

theorem catB_size : ∀ l : List ByteArray, (catB l).size = (l.map (·.size)).sum
  | [] => rfl
  | x :: l => by
    simp only [catB, ByteArray.size_append, List.map_cons, List.sum_cons, catB_size l]

theorem tdiv_nn {n m : Int} (h : 0 ≤ n) : n.tdiv m = n / m := Int.tdiv_eq_ediv_of_nonneg h

theorem tmod_nn {n m : Int} (h : 0 ≤ n) : n.tmod m = n % m := Int.tmod_eq_emod_of_nonneg h

def mixStep (x b : Int) : Int := (x * 65599 + b + 1) % 2147483629

def mixGo (s : ByteArray) (x : Int) : Int := (List.range s.size).foldl (fun x i => mixStep x (bt s i)) x

def mix (s : ByteArray) (n : Int) : Int := (mixGo s (n % 2147483629 + 1) * 40503 + 77) % 2147483629

theorem mix_round {x b : Int} (hx0 : 0 ≤ x) (hx1 : x ≤ 2147483629) (hb0 : 0 ≤ b) (hb1 : b ≤ 255) :
    Int.tmod (IntKind.wrap .i64 (IntKind.wrap .i64 (IntKind.wrap .i64 (x * 65599) + IntKind.wrap .i64 b) + 1)) 2147483629 = mixStep x b := by
  rw [w64 (n := x * 65599) (by omega) (by omega), w64 (n := b) (by omega) (by omega), w64 (n := x * 65599 + b) (by omega) (by omega), w64 (by omega) (by omega), tmod_nn (by omega)]
  rfl

theorem impl_ymix_eq {s : ByteArray} {n : Int} (hs : s.size ≤ 2 ^ 40) (hN : 2 ^ 40 < N) (k : Int → Option R) : g_impl_ymix N s n k = k (mix s n) := by
  unfold g_impl_ymix
  rw [impl_ymod_eq N (by omega) (by omega)]
  have hm : 0 ≤ n % 2147483629 ∧ n % 2147483629 < 2147483629 := by omega
  rw [w64 (n := n % 2147483629 + 1) (by omega) (by omega)]
  unfold c_impl_ymix_0
  obtain ⟨h1, h2, h3⟩ := fold (fun f i x => l_impl_ymix_0 N s s.size (fun n5 => k (Int.tmod (IntKind.wrap .i64 (IntKind.wrap .i64 (n5 * 40503) + 77)) 2147483629)) f x i) s.size (fun i x => mixStep x (bt s i)) (fun _ x => 0 ≤ x ∧ x ≤ 2147483629) (fun n5 => k (Int.tmod (IntKind.wrap .i64 (IntKind.wrap .i64 (n5 * 40503) + 77)) 2147483629)) (fun f i x hi hx => by
      obtain ⟨b1, b2⟩ := bt_bound s i
      simp only [l_impl_ymix_0, s_impl_ymix_0, dec_lt hi, dec_nn, Int.toNat_natCast, wrap_next hi (by omega), Bool.and_true, cond_true, mix_round hx.1 hx.2 b1 b2]
      exact ⟨trivial, by unfold mixStep; omega⟩) (fun f x hx => by
      simp only [l_impl_ymix_0, s_impl_ymix_0, dec_nlt, cond_false]) (s := n % 2147483629 + 1) ⟨by omega, by omega⟩ (f := N) (by omega)
  refine h1.trans ?_
  rw [w64 (n := _ * 40503) (by omega) (by omega), w64 (by omega) (by omega), tmod_nn (by omega)]
  rfl

theorem spec_Mix_eq {s : ByteArray} {n : Int} (hN : 2 ^ 40 < N) (k : Int → Option R) : g_spec_Mix N s n k = k (cond (decide ((s.size : Int) > 65536)) 0 (mix s n)) := by
  unfold g_spec_Mix
  by_cases hs : (s.size : Int) > 65536
  · rw [decide_eq_true hs]; rfl
  rw [decide_eq_false hs, cond_false, cond_false, spec_l01Mod_eq N (by omega) (by omega)]
  have hm : 0 ≤ n % 2147483629 ∧ n % 2147483629 < 2147483629 := by omega
  rw [w64 (n := n % 2147483629 + 1) (by omega) (by omega)]
  unfold c_spec_Mix_0
  obtain ⟨h1, h2, h3⟩ := fold (fun f i x => l_spec_Mix_0 N s (fun n5 => k (Int.tmod (IntKind.wrap .i64 (IntKind.wrap .i64 (n5 * 40503) + 77)) 2147483629)) f x i) s.size (fun i x => mixStep x (bt s i)) (fun _ x => 0 ≤ x ∧ x ≤ 2147483629) (fun n5 => k (Int.tmod (IntKind.wrap .i64 (IntKind.wrap .i64 (n5 * 40503) + 77)) 2147483629)) (fun f i x hi hx => by
      obtain ⟨b1, b2⟩ := bt_bound s i
      simp only [l_spec_Mix_0, s_spec_Mix_0, dec_lt hi, dec_nn, Int.toNat_natCast, wrap_next hi (by omega), Bool.and_true, cond_true, mix_round hx.1 hx.2 b1 b2]
      exact ⟨trivial, by unfold mixStep; omega⟩) (fun f x hx => by
      simp only [l_spec_Mix_0, s_spec_Mix_0, dec_nlt, cond_false]) (s := n % 2147483629 + 1) ⟨by omega, by omega⟩ (f := N) (by omega)
  refine h1.trans ?_
  rw [w64 (n := _ * 40503) (by omega) (by omega), w64 (by omega) (by omega), tmod_nn (by omega)]
  rfl

theorem ofBytes_length (s : ByteArray) : (ofBytes s).length = s.size := by
  unfold ofBytes
  rw [List.length_map, Array.length_toList]
  rfl

theorem nth_ofBytes {s : ByteArray} {i : Nat} (h : i < s.size) : nth (ofBytes s) i = some (bt s i) := by
  have h' : i < s.data.toList.length := by rw [Array.length_toList]; exact h
  unfold ofBytes bt
  rw [nth_eq, List.getElem?_map, List.getElem?_eq_getElem h', List.getD_eq_getElem?_getD, List.getElem?_eq_getElem h']
  rfl

theorem toBytes_ofBytes (s : ByteArray) : toBytes (ofBytes s) = s := by
  obtain ⟨⟨l⟩⟩ := s
  unfold toBytes ofBytes
  simp only [List.map_map]
  have : (l.map ((fun x : Int => UInt8.ofNat x.toNat) ∘ fun c : UInt8 => (c.toNat : Int))) = l := by
    rw [List.map_congr_left (g := id) (fun c _ => by simp), List.map_id]
  rw [this]

theorem ofBytes_toBytes {l : List Int} (h : ∀ x ∈ l, 0 ≤ x ∧ x < 256) : ofBytes (toBytes l) = l := by
  unfold ofBytes toBytes
  simp only [List.map_map]
  rw [List.map_congr_left (g := id) (fun x hx => ?_), List.map_id]
  have := h x hx
  simp
  omega

theorem impl_yjoinw_eq {l : List ByteArray} {b : Bool} (h1 : l.length ≤ 2 ^ 40) (h2 : (catB l).size ≤ 2 ^ 40) (k : ByteArray → Option R) : g_impl_yjoin_w N b l k = k (catB l) := by
  unfold g_impl_yjoin_w
  rw [joinOk_cat h1 h2, cond_true, joinB_cat]

def isW (x : Int) : Bool := decide (x ≥ 0) && decide (x < 4294967296)

theorem spec_l04Words_r_eq {l : List Int} {b : Bool} (hl : l.length ≤ 2 ^ 40) (hN : 2 ^ 40 < N) (k : Bool → Option R) : g_spec_l04Words_r N b (l.length : Int) l k = k (!(l.any fun x => !isW x)) := by
  unfold g_spec_l04Words_r
  rw [bne_self_eq_false, cond_false]
  unfold c_spec_l04Words_r_0
  rw [srch (l_spec_l04Words_r_0 N b l.length l (k false) (k true)) l.length (fun i => atD l i (fun x => !isW x) true) (k false) (k true) (fun f i hi => ?_) (fun f => ?_) (by omega), any_atD]
  · cases l.any (fun x => !isW x) <;> rfl
  · obtain ⟨x, hx⟩ := nth_some hi
    simp only [l_spec_l04Words_r_0, s_spec_l04Words_r_0, dec_lt hi, dec_nn, Int.toNat_natCast, elemK_some hx, wrap_next hi (by omega), Bool.and_true, cond_true, atD_some hx, spec_l01IsWord_eq]
    rfl
  · simp only [l_spec_l04Words_r_0, s_spec_l04Words_r_0, dec_nlt, cond_false]

def regsOk (l : List Int) : Bool := decide (1 ≤ l.length) && decide (l.length ≤ 8) && !(l.any fun x => !isW x)

theorem spec_l15Regs_r_eq {l : List Int} {b : Bool} (hN : 2 ^ 40 < N) (k : Bool → Option R) : g_spec_l15Regs_r N b l k = k (regsOk l) := by
  unfold g_spec_l15Regs_r regsOk
  have h1 : decide ((l.length : Int) ≥ 1) = decide (1 ≤ l.length) := decide_eq_decide.2 (by omega)
  have h2 : decide ((l.length : Int) ≤ 8) = decide (l.length ≤ 8) := decide_eq_decide.2 (by omega)
  rw [h1, h2]
  by_cases ha : 1 ≤ l.length
  · by_cases hb : l.length ≤ 8
    · rw [decide_eq_true ha, decide_eq_true hb, spec_l04Words_r_eq N (by omega) hN]; rfl
    · rw [decide_eq_true ha, decide_eq_false hb]; rfl
  · rw [decide_eq_false ha]; rfl

theorem indexFunc_regs_eq {l : List Int} {b : Bool} (hl : l.length ≤ 2 ^ 40) (hN : 2 ^ 40 < N) (k : Int → Option R) : g_slices_IndexFunc_int64_Fimpl_yregsOk_1_r N b l k = k (fstAt l.length (fun i => atD l i (fun x => !isW x) true)) := by
  unfold g_slices_IndexFunc_int64_Fimpl_yregsOk_1_r c_slices_IndexFunc_int64_Fimpl_yregsOk_1_r_0
  rw [srchI (l_slices_IndexFunc_int64_Fimpl_yregsOk_1_r_0 N b l.length l (fun n3 => k n3) (k (-1))) l.length (fun i => atD l i (fun x => !isW x) true) (fun n3 => k n3) (k (-1)) (fun f i hi => ?_) (fun f => ?_) (by omega)]
  · unfold fstAt
    split <;> rfl
  · obtain ⟨x, hx⟩ := nth_some hi
    simp only [l_slices_IndexFunc_int64_Fimpl_yregsOk_1_r_0, s_slices_IndexFunc_int64_Fimpl_yregsOk_1_r_0, dec_lt hi, dec_nn, Int.toNat_natCast, elemK_some hx, wrap_next hi (by omega), Bool.and_true, cond_true, atD_some hx, g_impl_yregsOk_1, impl_yisWord_eq]
    rfl
  · simp only [l_slices_IndexFunc_int64_Fimpl_yregsOk_1_r_0, s_slices_IndexFunc_int64_Fimpl_yregsOk_1_r_0, dec_nlt, cond_false]

theorem impl_yregsOk_r_eq {l : List Int} {b : Bool} (hN : 2 ^ 40 < N) (k : Bool → Option R) : g_impl_yregsOk_r N b l k = k (regsOk l) := by
  unfold g_impl_yregsOk_r regsOk g_slices_ContainsFunc_int64_Fimpl_yregsOk_1_r
  have h1 : decide ((l.length : Int) ≥ 1) = decide (1 ≤ l.length) := decide_eq_decide.2 (by omega)
  have h2 : decide ((l.length : Int) ≤ 8) = decide (l.length ≤ 8) := decide_eq_decide.2 (by omega)
  rw [impl_yin_eq, h1, h2]
  by_cases hb : l.length ≤ 8
  · rw [indexFunc_regs_eq N (by omega) hN]
    simp only [fstAt_nonneg, any_atD]
    cases (decide (1 ≤ l.length) && decide (l.length ≤ 8)) <;> rfl
  · rw [decide_eq_false hb, Bool.and_false, cond_false]; rfl

theorem longKey_eq {s : ByteArray} (hN : 2 ^ 40 < N) (k : Bool → Option R) : g_impl_ylongKey_w N false [s] k = k (decide ((s.size : Int) > 4096)) := by
  unfold g_impl_ylongKey_w g_slices_ContainsFunc_string_Fimpl_ylongKey_1_w g_slices_IndexFunc_string_Fimpl_ylongKey_1_w c_slices_IndexFunc_string_Fimpl_ylongKey_1_w_0
  have := srchI (l_slices_IndexFunc_string_Fimpl_ylongKey_1_w_0 N false ([s].length : Nat) [s] (fun n => k (decide (n ≥ 0))) (k (decide ((-1 : Int) ≥ 0)))) 1 (fun i => atD [s] i (fun x => decide ((x.size : Int) > 4096)) true) (fun n => k (decide (n ≥ 0))) (k (decide ((-1 : Int) ≥ 0))) (fun f i hi => by
    obtain ⟨x, hx⟩ := nth_some (l := [s]) (n := i) hi
    have hi' : i < [s].length := hi
    simp only [l_slices_IndexFunc_string_Fimpl_ylongKey_1_w_0, s_slices_IndexFunc_string_Fimpl_ylongKey_1_w_0, dec_lt hi', dec_nn, Int.toNat_natCast, elemK_some hx, wrap_next hi (by omega), Bool.and_true, cond_true, atD_some hx, g_impl_ylongKey_1]) (fun f => by
    have : decide (((1 : Nat) : Int) < (([s].length : Nat) : Int)) = false := by simp
    simp only [l_slices_IndexFunc_string_Fimpl_ylongKey_1_w_0, s_slices_IndexFunc_string_Fimpl_ylongKey_1_w_0, this, cond_false]) (f := N) (by omega)
  refine this.trans ?_
  have e : (List.range 1).find? (fun i => atD [s] i (fun x => decide ((x.size : Int) > 4096)) true) = cond (decide ((s.size : Int) > 4096)) (some 0) none := by
    have e1 : atD [s] 0 (fun x => decide ((x.size : Int) > 4096)) true = decide ((s.size : Int) > 4096) := rfl
    rw [show List.range 1 = [0] from rfl, List.find?_cons, e1]
    cases decide ((s.size : Int) > 4096) <;> rfl
  rw [e]
  cases decide ((s.size : Int) > 4096) <;> rfl

theorem ybig_eq {t : ByteArray} (hN : 2 ^ 40 < N) (k : Bool → Option R) : g_impl_ybig_w N false [t] k = k (decide ((t.size : Int) > 65536)) := by
  obtain ⟨M, rfl⟩ : ∃ M, N = M + 2 := ⟨N - 2, by omega⟩
  unfold g_impl_ybig_w c_impl_ybig_w_0
  have hx : nth [t] 0 = some t := rfl
  show cond (decide ((t.size : Int) > 65536)) (k true) (k false) = _
  cases decide ((t.size : Int) > 65536) <;> rfl

theorem foldl_cong {S T : Type} {f g : S → T → S} : ∀ (l : List T) (s : S), (∀ s x, x ∈ l → f s x = g s x) → l.foldl f s = l.foldl g s
  | [], _, _ => rfl
  | x :: l, s, h => by
    rw [List.foldl_cons, List.foldl_cons, h s x (List.mem_cons_self ..)]
    exact foldl_cong l _ fun s y hy => h s y (List.mem_cons_of_mem _ hy)

theorem src_n_shape (n : Int) (b : Bool) (p m z : Int) (l : List Int) : ∃ M : Int, ∀ k : Int → Int → Int → Option R, g_spec_l01Src_n_Wr N n b p m z l k = cond (decide (n ≤ 1)) (k 0 p m)
    (cond (decide (p < (l.length : Int))) (cond (decide (0 ≤ p) && decide (p < (l.length : Int))) (elemK l p.toNat fun x => cond (IntKind.wrap .u64 n == 0) none (k (IntKind.wrap .i64 (Int.tmod (IntKind.wrap .u64 (IntKind.wrap .u64 x + Int.fdiv M 1048576)) (IntKind.wrap .u64 n))) (IntKind.wrap .i64 (p + 1)) M)) none)
      (cond (IntKind.wrap .u64 n == 0) none (k (IntKind.wrap .i64 (Int.tmod (IntKind.wrap .u64 (0 + Int.fdiv M 1048576)) (IntKind.wrap .u64 n))) p M))) := ⟨_, fun _ => rfl⟩

theorem wu64_nn (n : Int) : 0 ≤ IntKind.wrap .u64 n := by
  unfold IntKind.wrap
  have hb : (2 : Int) ^ IntKind.u64.bits = 18446744073709551616 := by decide
  have hs : IntKind.u64.signed = false := rfl
  rw [hb, hs]
  simp only [Bool.false_and]
  rw [if_neg (by decide)]
  omega

/-- A drawn number. -/
theorem src_n {n : Int} {b : Bool} {p m z : Int} {l : List Int} (hn : n ≤ 2 ^ 62) (hl : l.length ≤ 2 ^ 30) (hp : 0 ≤ p ∧ p ≤ 2 ^ 40) :
    ∃ v p' m' : Int, 0 ≤ v ∧ (1 < n → v < n) ∧ (n ≤ 1 → v = 0) ∧ (0 ≤ p' ∧ p' ≤ 2 ^ 40) ∧ ∀ k : Int → Int → Int → Option R, g_spec_l01Src_n_Wr N n b p m z l k = k v p' m' := by
  obtain ⟨M, hM⟩ := src_n_shape (R := R) N n b p m z l
  by_cases h1 : n ≤ 1
  · exact ⟨0, p, m, Int.le_refl 0, fun h => by omega, fun _ => rfl, hp, fun k => by rw [hM, decide_eq_true h1, cond_true]⟩
  have hw : IntKind.wrap .u64 n = n := wu64 (by omega) (by omega)
  have h0 : (IntKind.wrap .u64 n == 0) = false := by rw [hw, beq_dec]; exact decide_eq_false (by omega)
  have key : ∀ X : Int, IntKind.wrap .i64 (Int.tmod (IntKind.wrap .u64 X) (IntKind.wrap .u64 n)) = IntKind.wrap .u64 X % n := by
    intro X
    have := wu64_nn X
    have h2 := Int.emod_nonneg (IntKind.wrap .u64 X) (show n ≠ 0 by omega)
    have h3 := Int.emod_lt_of_pos (IntKind.wrap .u64 X) (show 0 < n by omega)
    rw [hw, tmod_nn this, w64 (by omega) (by omega)]
  have bnd : ∀ X : Int, 0 ≤ IntKind.wrap .u64 X % n ∧ IntKind.wrap .u64 X % n < n := fun X => ⟨Int.emod_nonneg _ (by omega), Int.emod_lt_of_pos _ (by omega)⟩
  by_cases h2 : p < (l.length : Int)
  · obtain ⟨i, rfl⟩ := Int.eq_ofNat_of_zero_le hp.1
    obtain ⟨x, hx⟩ := nth_some (l := l) (n := i) (by omega)
    obtain ⟨b1, b2⟩ := bnd (IntKind.wrap .u64 x + Int.fdiv M 1048576)
    refine ⟨_, ((i + 1 : Nat) : Int), M, b1, fun _ => b2, fun h => by omega, by omega, fun k => ?_⟩
    rw [hM, decide_eq_false h1, cond_false, decide_eq_true h2, cond_true, dec_nn, Bool.and_self, cond_true, Int.toNat_natCast, elemK_some hx, h0, cond_false, key, w64 (n := (i : Int) + 1) (by omega) (by omega)]
    rfl
  · obtain ⟨b1, b2⟩ := bnd (0 + Int.fdiv M 1048576)
    exact ⟨_, p, M, b1, fun _ => b2, fun h => by omega, hp, fun k => by rw [hM, decide_eq_false h1, cond_false, decide_eq_false h2, cond_false, h0, cond_false, key]⟩

theorem src_one {n : Int} {b : Bool} {p m z : Int} {l : List Int} (hn : n ≤ 2 ^ 62) (hl : l.length ≤ 2 ^ 30) (hp : 0 ≤ p ∧ p ≤ 2 ^ 40) :
    ∃ (v : Bool) (p' m' : Int), (0 ≤ p' ∧ p' ≤ 2 ^ 40) ∧ ∀ k : Bool → Int → Int → Option R, g_spec_l01Src_one_Wr N n b p m z l k = k v p' m' := by
  obtain ⟨v, p', m', _, _, _, h, hk⟩ := src_n (R := R) N (b := b) (m := m) (z := z) hn hl hp
  exact ⟨_, p', m', h, fun k => by unfold g_spec_l01Src_one_Wr; rw [hk]⟩

/-- One of so many that are listed. -/
theorem pick_lit {T : Type} {L : List T} {v : Int} (h0 : 0 ≤ v) (h1 : v < (L.length : Int)) : ∃ x, x ∈ L ∧ ∀ K : T → Option R, elemK L v.toNat K = K x := by
  obtain ⟨i, rfl⟩ := Int.eq_ofNat_of_zero_le h0
  obtain ⟨x, hx⟩ := nth_some (l := L) (n := i) (by omega)
  exact ⟨x, nth_mem hx, fun K => by rw [Int.toNat_natCast, elemK_some hx]⟩

theorem in_rng {v n : Int} (h0 : 0 ≤ v) (h1 : v < n) : (decide (0 ≤ v) && decide (v < n)) = true := by rw [decide_eq_true h0, decide_eq_true h1]; rfl

theorem src_go {b1 b2 : Bool} {n1 n3 : Int} {l : List Int} (hl : l.length ≤ 2 ^ 30) : ∀ (d f i : Nat) (m : Int), i + d = l.length → d < f → ∃ m' : Int, ∀ kN : Int → Option R, l_spec_l01Source_r_0 N b1 l b2 n1 n3 kN f (i : Int) m = kN m' := by
  intro d
  induction d with
  | zero =>
    intro f i m hi hf
    obtain ⟨f, rfl⟩ : ∃ j, f = j + 1 := ⟨f - 1, by omega⟩
    refine ⟨m, fun kN => ?_⟩
    rw [l_spec_l01Source_r_0, s_spec_l01Source_r_0, decide_eq_false (show ¬ (i : Int) < (l.length : Int) by omega)]
    rfl
  | succ d ih =>
    intro f i m hi hf
    obtain ⟨f, rfl⟩ : ∃ j, f = j + 1 := ⟨f - 1, by omega⟩
    by_cases h : (i : Int) < 64
    · obtain ⟨x, hx⟩ := nth_some (l := l) (n := i) (by omega)
      have hlt : i < l.length := by omega
      obtain ⟨m', hm⟩ := ih f (i + 1) (IntKind.wrap .u64 ((IntKind.wrap .u64 (((BitVec.toNat ((BitVec.ofInt 64 m) ^^^ (BitVec.ofInt 64 (IntKind.wrap .u64 x)))) : Nat) : Int)) * (1099511628211 : Int))) (by omega) (by omega)
      refine ⟨m', fun kN => ?_⟩
      rw [l_spec_l01Source_r_0, s_spec_l01Source_r_0, dec_lt hlt, cond_true, oK_some_eq, decide_eq_true h, cond_true, dec_nn, Bool.and_self, cond_true, Int.toNat_natCast, elemK_some hx, wrap_next hlt (by omega)]
      exact hm kN
    · refine ⟨m, fun kN => ?_⟩
      rw [l_spec_l01Source_r_0, s_spec_l01Source_r_0, decide_eq_true (show (i : Int) < (l.length : Int) by omega), cond_true, oK_some_eq, decide_eq_false h, cond_false]

/-- A source. -/
theorem src_of {b : Bool} {l : List Int} (hl : l.length ≤ 2 ^ 30) (hN : 2 ^ 40 < N) : ∃ m z : Int, 0 ≤ z ∧ z ≤ 12 ∧ ∀ k : Int → Int → Option R, g_spec_l01Source_r N b l k = k m z := by
  obtain ⟨m, hm⟩ := src_go (R := R) N (b1 := b) (b2 := b) (n1 := 0) (n3 := 0) hl l.length N 0 88172645463325252 (by omega) (by omega)
  by_cases h : (l.length : Int) > 12
  · refine ⟨m, 12, by omega, by omega, fun k => ?_⟩
    unfold g_spec_l01Source_r c_spec_l01Source_r_0
    refine (hm _).trans ?_
    rw [decide_eq_true h, cond_true]
  · refine ⟨m, l.length, by omega, by omega, fun k => ?_⟩
    unfold g_spec_l01Source_r c_spec_l01Source_r_0
    refine (hm _).trans ?_
    rw [decide_eq_false h, cond_false]

theorem src_bytes_go {n4 n8 : Int} {b2 : Bool} {l : List Int} (hl : l.length ≤ 2 ^ 30) : ∀ (d f i : Nat) (p m : Int) (b1 : Bool) (L : List Int), (i : Int) + d = n4 → d < f → (0 ≤ p ∧ p ≤ 2 ^ 40) → L.length = i → i + d ≤ 2 ^ 30 →
    ∃ (b' : Bool) (p' m' : Int) (L' : List Int), (0 ≤ p' ∧ p' ≤ 2 ^ 40) ∧ L'.length = i + d ∧ ∀ kN : Bool → Int → Int → List Int → Option R, l_spec_l01Src_bytes_Wr_0 N n4 b2 n8 l kN f b1 (i : Int) p m L = kN b' p' m' L' := by
  intro d
  induction d with
  | zero =>
    intro f i p m b1 L hi hf hp hL hb
    obtain ⟨f, rfl⟩ : ∃ j, f = j + 1 := ⟨f - 1, by omega⟩
    refine ⟨b1, p, m, L, hp, by omega, fun kN => ?_⟩
    rw [l_spec_l01Src_bytes_Wr_0, s_spec_l01Src_bytes_Wr_0, decide_eq_false (show ¬ (i : Int) < n4 by omega), cond_false]
  | succ d ih =>
    intro f i p m b1 L hi hf hp hL hb
    obtain ⟨f, rfl⟩ : ∃ j, f = j + 1 := ⟨f - 1, by omega⟩
    obtain ⟨v, p1, m1, h0, h1, _, hp1, hv⟩ := src_n (R := R) N (n := 256) (b := b2) (m := m) (z := n8) (by omega) hl hp
    obtain ⟨b', p', m', L', hp', hL', hk⟩ := ih f (i + 1) p1 m1 (cond (Nat.beq 1 0) b1 false) (L ++ [IntKind.wrap .u8 v]) (by omega) (by omega) hp1 (by rw [List.length_append, List.length_singleton, hL]) (by omega)
    refine ⟨b', p', m', L', hp', by omega, fun kN => ?_⟩
    rw [l_spec_l01Src_bytes_Wr_0, s_spec_l01Src_bytes_Wr_0, decide_eq_true (show (i : Int) < n4 by omega), cond_true, hv, List.length_singleton, room (show (L.length + 1) * 1 ≤ 2 ^ 47 by omega) (by omega), cond_true, w64 (n := (i : Int) + 1) (by omega) (by omega)]
    exact hk kN

/-- Drawn bytes. -/
theorem src_bytes {n : Nat} {b : Bool} {p m z : Int} {l : List Int} (hn : n ≤ 2 ^ 30) (hl : l.length ≤ 2 ^ 30) (hp : 0 ≤ p ∧ p ≤ 2 ^ 40) (hN : 2 ^ 40 < N) :
    ∃ (s : ByteArray) (p' m' : Int), s.size = n ∧ (0 ≤ p' ∧ p' ≤ 2 ^ 40) ∧ ∀ k : ByteArray → Int → Int → Option R, g_spec_l01Src_bytes_Wr N (n : Int) b p m z l k = k s p' m' := by
  obtain ⟨b', p', m', L', hp', hL', hk⟩ := src_bytes_go (R := R) N (n4 := (n : Int)) (n8 := z) (b2 := b) hl n N 0 p m false [] (by omega) (by omega) hp rfl (by omega)
  refine ⟨toBytes L', p', m', by rw [toBytes_size]; omega, hp', fun k => ?_⟩
  unfold g_spec_l01Src_bytes_Wr c_spec_l01Src_bytes_Wr_0
  refine (hk _).trans ?_
  rw [Nat.zero_add, ble_t (Nat.le_refl _), cond_true, seg_all]

/-- Drawn zeros. -/
theorem src_zeros {n : Nat} {b : Bool} {p m z : Int} {l : List Int} (hn : n ≤ 2 ^ 30) : ∃ s : ByteArray, s.size = n ∧ ∀ k : ByteArray → Option R, g_spec_l01Src_zeros_Wr N (n : Int) b p m z l k = k s := by
  refine ⟨toBytes (List.replicate n 0), by rw [toBytes_size, List.length_replicate], fun k => ?_⟩
  unfold g_spec_l01Src_zeros_Wr
  rw [dec_self, dec_nn, Int.toNat_natCast, room (by omega) (by omega), Bool.and_self, Bool.and_self, cond_true, Nat.zero_add, ble_t (Nat.le_refl _), cond_true, seg_all]


theorem src_key {b : Bool} {p m z : Int} {l : List Int} (hl : l.length ≤ 2 ^ 30) (hp : 0 ≤ p ∧ p ≤ 2 ^ 40) (hN : 2 ^ 40 < N) :
    ∃ (s : ByteArray) (p' m' : Int), s.size ≤ 5000 ∧ (0 ≤ p' ∧ p' ≤ 2 ^ 40) ∧ ∀ k : ByteArray → Int → Int → Option R, g_spec_l01Src_key_Wr N b p m z l k = k s p' m' := by
  obtain ⟨v1, p1, m1, a0, a1, _, hp1, h1⟩ := src_n (R := R) N (n := 8) (b := b) (m := m) (z := z) (by omega) hl hp
  have a2 := a1 (by omega)
  obtain ⟨w1, rfl⟩ := Int.eq_ofNat_of_zero_le a0
  obtain ⟨s, p2, m2, hs, hp2, h2⟩ := src_bytes (R := R) N (n := w1) (b := b) (m := m1) (z := z) (by omega) hl hp1 hN
  obtain ⟨b1, p3, m3, hp3, h3⟩ := src_one (R := R) N (n := 30) (b := b) (m := m2) (z := z) (by omega) hl hp2
  cases b1 with
  | true =>
    obtain ⟨v4, p4, m4, c0, c1, _, hp4, h4⟩ := src_n (R := R) N (n := 3) (b := b) (m := m3) (z := z) (by omega) hl hp3
    have c2 := c1 (by omega)
    obtain ⟨w4, rfl⟩ := Int.eq_ofNat_of_zero_le c0
    have e4 : IntKind.wrap .i64 (4031 + (w4 : Int)) = ((4031 + w4 : Nat) : Int) := by rw [w64 (by omega) (by omega)]; omega
    obtain ⟨s1, hs1, h5⟩ := src_zeros (R := R) N (n := 4031 + w4) (b := b) (p := p4) (m := m4) (z := z) (l := l) (by omega)
    obtain ⟨b2, p6, m6, hp6, h6⟩ := src_one (R := R) N (n := 30) (b := b) (m := m4) (z := z) (by omega) hl hp4
    cases b2 with
    | true =>
      obtain ⟨v7, p7, m7, d0, d1, _, hp7, h7⟩ := src_n (R := R) N (n := 2) (b := b) (m := m6) (z := z) (by omega) hl hp6
      have d2 := d1 (by omega)
      obtain ⟨w7, rfl⟩ := Int.eq_ofNat_of_zero_le d0
      have e7 : IntKind.wrap .i64 (4096 + (w7 : Int)) = ((4096 + w7 : Nat) : Int) := by rw [w64 (by omega) (by omega)]; omega
      obtain ⟨s2, hs2, h8⟩ := src_zeros (R := R) N (n := 4096 + w7) (b := b) (p := p7) (m := m7) (z := z) (l := l) (by omega)
      exact ⟨s2, p7, m7, by omega, hp7, fun k => by unfold g_spec_l01Src_key_Wr; rw [h1, h2, h3, cond_true, h4, e4, h5, h6, cond_true, h7, e7, h8]⟩
    | false => exact ⟨s1, p6, m6, by omega, hp6, fun k => by unfold g_spec_l01Src_key_Wr; rw [h1, h2, h3, cond_true, h4, e4, h5, h6, cond_false]⟩
  | false =>
    obtain ⟨b2, p6, m6, hp6, h6⟩ := src_one (R := R) N (n := 30) (b := b) (m := m3) (z := z) (by omega) hl hp3
    cases b2 with
    | true =>
      obtain ⟨v7, p7, m7, d0, d1, _, hp7, h7⟩ := src_n (R := R) N (n := 2) (b := b) (m := m6) (z := z) (by omega) hl hp6
      have d2 := d1 (by omega)
      obtain ⟨w7, rfl⟩ := Int.eq_ofNat_of_zero_le d0
      have e7 : IntKind.wrap .i64 (4096 + (w7 : Int)) = ((4096 + w7 : Nat) : Int) := by rw [w64 (by omega) (by omega)]; omega
      obtain ⟨s2, hs2, h8⟩ := src_zeros (R := R) N (n := 4096 + w7) (b := b) (p := p7) (m := m7) (z := z) (l := l) (by omega)
      exact ⟨s2, p7, m7, by omega, hp7, fun k => by unfold g_spec_l01Src_key_Wr; rw [h1, h2, h3, cond_false, h6, cond_true, h7, e7, h8]⟩
    | false => exact ⟨s, p6, m6, by omega, hp6, fun k => by unfold g_spec_l01Src_key_Wr; rw [h1, h2, h3, cond_false, h6, cond_false]⟩

theorem src_num {b : Bool} {p m z : Int} {l : List Int} (hl : l.length ≤ 2 ^ 30) (hp : 0 ≤ p ∧ p ≤ 2 ^ 40) :
    ∃ (n p' m' : Int), (0 ≤ p' ∧ p' ≤ 2 ^ 40) ∧ ∀ k : Int → Int → Int → Option R, g_spec_l01Src_num_Wr N b p m z l k = k n p' m' := by
  obtain ⟨b1, p1, m1, hp1, h1⟩ := src_one (R := R) N (n := 3) (b := b) (m := m) (z := z) (by omega) hl hp
  cases b1 with
  | true =>
    obtain ⟨v2, p2, m2, _, _, _, hp2, h2⟩ := src_n (R := R) N (n := 1000) (b := b) (m := m1) (z := z) (by omega) hl hp1
    exact ⟨_, p2, m2, hp2, fun k => by unfold g_spec_l01Src_num_Wr; rw [h1, cond_true, h2]⟩
  | false =>
    obtain ⟨v2, p2, m2, a0, a1, _, hp2, h2⟩ := src_n (R := R) N (n := 15) (b := b) (m := m1) (z := z) (by omega) hl hp1
    have a2 := a1 (by omega)
    obtain ⟨x, _, hk⟩ := pick_lit (R := R) (L := [(0 : Int), (1 : Int), (2 : Int), (255 : Int), (256 : Int), (4095 : Int), (4096 : Int), (65535 : Int), (65536 : Int), (2147483647 : Int), (2147483648 : Int), (4294967295 : Int), (4294967296 : Int), (9223372036854775807 : Int), (-(9223372036854775808 : Int))]) a0 (by simpa using a2)
    obtain ⟨v3, p3, m3, _, _, _, hp3, h3⟩ := src_n (R := R) N (n := 3) (b := b) (m := m2) (z := z) (by omega) hl hp2
    exact ⟨_, p3, m3, hp3, fun k => by unfold g_spec_l01Src_num_Wr; rw [h1, cond_false, h2, in_rng a0 a2, cond_true, hk, h3]⟩


theorem regs_go {b2 : Bool} {n9 : Int} {l1 : List Int} (hl : l1.length ≤ 2 ^ 30) : ∀ (d f : Nat) (b1 : Bool) (p m : Int) (L : List Int), d < f → L.length + d ≤ 100 → (0 ≤ p ∧ p ≤ 2 ^ 40) →
    ∃ (b' : Bool) (p' m' : Int) (L' : List Int), L'.length ≤ 100 ∧ (0 ≤ p' ∧ p' ≤ 2 ^ 40) ∧ ∀ kN : Bool → Int → Int → List Int → Option R, l_spec_l01Src_regs_Wr_0 N b2 n9 l1 kN f b1 (d : Int) p m L = kN b' p' m' L' := by
  intro d
  induction d with
  | zero =>
    intro f b1 p m L hf hL hp
    obtain ⟨f, rfl⟩ : ∃ j, f = j + 1 := ⟨f - 1, by omega⟩
    refine ⟨b1, p, m, L, by omega, hp, fun kN => ?_⟩
    rw [l_spec_l01Src_regs_Wr_0, s_spec_l01Src_regs_Wr_0, decide_eq_false (show ¬ ((0 : Nat) : Int) > 0 by omega), cond_false]
  | succ d ih =>
    intro f b1 p m L hf hL hp
    obtain ⟨f, rfl⟩ : ∃ j, f = j + 1 := ⟨f - 1, by omega⟩
    obtain ⟨n, p1, m1, hp1, h1⟩ := src_num (R := R) N (b := b2) (m := m) (z := n9) hl hp
    have e : IntKind.wrap .i64 (((d + 1 : Nat) : Int) - 1) = ((d : Nat) : Int) := by rw [w64 (by omega) (by omega)]; omega
    obtain ⟨b', p', m', L', f1, f2, f3⟩ := ih f (cond (Nat.beq 1 0) b1 false) p1 m1 (L ++ [word n]) (by omega) (by rw [List.length_append, List.length_singleton]; omega) hp1
    refine ⟨b', p', m', L', f1, f2, fun kN => ?_⟩
    rw [l_spec_l01Src_regs_Wr_0, s_spec_l01Src_regs_Wr_0, decide_eq_true (show ((d + 1 : Nat) : Int) > 0 by omega), cond_true, h1, spec_Word_eq, List.length_singleton, room (by omega) (by omega), cond_true, e]
    exact f3 kN

theorem src_regs {b : Bool} {p m z : Int} {l : List Int} (hl : l.length ≤ 2 ^ 30) (hp : 0 ≤ p ∧ p ≤ 2 ^ 40) (hN : 2 ^ 40 < N) :
    ∃ (b' : Bool) (p' m' : Int) (L : List Int), L.length ≤ 100 ∧ (0 ≤ p' ∧ p' ≤ 2 ^ 40) ∧ ∀ k : Bool → Int → Int → List Int → Option R, g_spec_l01Src_regs_Wr N b p m z l k = k b' p' m' L := by
  obtain ⟨v1, p1, m1, a0, a1, _, hp1, h1⟩ := src_n (R := R) N (n := 4) (b := b) (m := m) (z := z) (by omega) hl hp
  have a2 := a1 (by omega)
  obtain ⟨w, rfl⟩ := Int.eq_ofNat_of_zero_le a0
  have e : IntKind.wrap .i64 (1 + (w : Int)) = ((1 + w : Nat) : Int) := by rw [w64 (by omega) (by omega)]; omega
  obtain ⟨b3, p2, m2, L, f1, hp2, h2⟩ := regs_go (R := R) N (b2 := b) (n9 := z) hl (1 + w) N false p1 m1 [] (by omega) (by simp; omega) hp1
  obtain ⟨b4, p3, m3, hp3, h3⟩ := src_one (R := R) N (n := 15) (b := b) (m := m2) (z := z) (by omega) hl hp2
  cases b4 with
  | false =>
    refine ⟨b3, p3, m3, L, f1, hp3, fun k => ?_⟩
    unfold g_spec_l01Src_regs_Wr c_spec_l01Src_regs_Wr_0
    rw [h1, e]
    refine (h2 _).trans ?_
    rw [h3, cond_false]
  | true =>
    obtain ⟨v4, p4, m4, c0, c1, _, hp4, h4⟩ := src_n (R := R) N (n := 5) (b := b) (m := m3) (z := z) (by omega) hl hp3
    have c2 := c1 (by omega)
    have hd : ∀ k : Bool → Int → Int → List Int → Option R, g_spec_l01Src_regs_Wr N b p m z l k = cond (decide (v4 = 0)) (k false p4 m4 []) (cond (decide (v4 = 1)) (k false p4 m4 [(-(1 : Int))]) (cond (decide (v4 = 2)) (k false p4 m4 [(4294967296 : Int)]) (cond (decide (v4 = 3)) (k false p4 m4 (List.replicate 8 (0 : Int))) (cond (decide (v4 = 4)) (k false p4 m4 (List.replicate 9 (0 : Int))) none)))) := fun k => by
      unfold g_spec_l01Src_regs_Wr c_spec_l01Src_regs_Wr_0
      rw [h1, e]
      refine (h2 _).trans ?_
      rw [h3, cond_true, h4]
    have hv : v4 = 0 ∨ v4 = 1 ∨ v4 = 2 ∨ v4 = 3 ∨ v4 = 4 := by omega
    rcases hv with rfl | rfl | rfl | rfl | rfl
    · exact ⟨false, p4, m4, [], by simp, hp4, fun k => by rw [hd]; rfl⟩
    · exact ⟨false, p4, m4, [-1], by simp, hp4, fun k => by rw [hd]; rfl⟩
    · exact ⟨false, p4, m4, [4294967296], by simp, hp4, fun k => by rw [hd]; rfl⟩
    · exact ⟨false, p4, m4, List.replicate 8 0, by simp, hp4, fun k => by rw [hd]; rfl⟩
    · exact ⟨false, p4, m4, List.replicate 9 0, by simp, hp4, fun k => by rw [hd]; rfl⟩

def longB (s : ByteArray) : Bool := decide ((s.size : Int) > 4096)

theorem longKey2_eq {s s1 : ByteArray} (hN : 2 ^ 40 < N) (k : Bool → Option R) : g_impl_ylongKey_w N false [s, s1] k = k (longB s || longB s1) := by
  unfold g_impl_ylongKey_w g_slices_ContainsFunc_string_Fimpl_ylongKey_1_w g_slices_IndexFunc_string_Fimpl_ylongKey_1_w c_slices_IndexFunc_string_Fimpl_ylongKey_1_w_0
  have := srchI (l_slices_IndexFunc_string_Fimpl_ylongKey_1_w_0 N false ([s, s1].length : Nat) [s, s1] (fun n => k (decide (n ≥ 0))) (k (decide ((-1 : Int) ≥ 0)))) 2 (fun i => atD [s, s1] i longB true) (fun n => k (decide (n ≥ 0))) (k (decide ((-1 : Int) ≥ 0))) (fun f i hi => by
    obtain ⟨x, hx⟩ := nth_some (l := [s, s1]) (n := i) hi
    have hi' : i < [s, s1].length := hi
    simp only [l_slices_IndexFunc_string_Fimpl_ylongKey_1_w_0, s_slices_IndexFunc_string_Fimpl_ylongKey_1_w_0, dec_lt hi', dec_nn, Int.toNat_natCast, elemK_some hx, wrap_next hi (by omega), Bool.and_true, cond_true, atD_some hx, g_impl_ylongKey_1, longB]) (fun f => by
    have : decide (((2 : Nat) : Int) < (([s, s1].length : Nat) : Int)) = false := by simp
    simp only [l_slices_IndexFunc_string_Fimpl_ylongKey_1_w_0, s_slices_IndexFunc_string_Fimpl_ylongKey_1_w_0, this, cond_false]) (f := N) (by omega)
  refine this.trans ?_
  have e : (List.range 2).find? (fun i => atD [s, s1] i longB true) = cond (longB s) (some 0) (cond (longB s1) (some 1) none) := by
    have e1 : atD [s, s1] 0 longB true = longB s := rfl
    have e2 : atD [s, s1] 1 longB true = longB s1 := rfl
    rw [show List.range 2 = [0, 1] from rfl, List.find?_cons, List.find?_cons, e1, e2]
    cases longB s <;> cases longB s1 <;> rfl
  rw [e]
  cases longB s <;> cases longB s1 <;> rfl

def tagOf (s s1 : ByteArray) : ByteArray := cond (longB s || longB s1) ⟨[].toArray⟩ (putWord (mix (s ++ s1) 21) ++ putWord (mix (s1 ++ s) 22))

theorem longB_size {s : ByteArray} (h : longB s = false) : s.size ≤ 4096 := by
  have := of_decide_eq_false h
  omega

theorem spec_TagOf_eq {s s1 : ByteArray} (hN : 2 ^ 40 < N) (k : ByteArray → Option R) : g_spec_TagOf N s s1 k = k (tagOf s s1) := by
  unfold g_spec_TagOf tagOf
  rw [cond_somes, oK_some_eq, Bool.cond_true_left]
  change cond (longB s || longB s1) _ _ = _
  cases h : (longB s || longB s1) with
  | true => rfl
  | false =>
    obtain ⟨h1, h2⟩ := Bool.or_eq_false_iff.1 h
    have h1 := longB_size h1
    have h2 := longB_size h2
    simp only [cond_false]
    rw [ble_t (by omega), cond_true, spec_Mix_eq N hN, decide_eq_false (by rw [ByteArray.size_append]; omega), cond_false, spec_PutWord_eq, ble_t (by omega), cond_true, spec_Mix_eq N hN, decide_eq_false (by rw [ByteArray.size_append]; omega), cond_false, spec_PutWord_eq, putWord_size, putWord_size]
    rfl

theorem impl_TagOf_eq {s s1 : ByteArray} (hN : 2 ^ 40 < N) (k : ByteArray → Option R) : g_impl_TagOf N s s1 k = k (tagOf s s1) := by
  unfold g_impl_TagOf tagOf
  rw [longKey2_eq N hN]
  cases h : (longB s || longB s1) with
  | true => rfl
  | false =>
    obtain ⟨h1, h2⟩ := Bool.or_eq_false_iff.1 h
    have h1 := longB_size h1
    have h2 := longB_size h2
    simp only [cond_false]
    rw [ble_t (by omega), cond_true, impl_ymix_eq N (by rw [ByteArray.size_append]; omega) hN, impl_PutWord_eq, ble_t (by omega), cond_true, impl_ymix_eq N (by rw [ByteArray.size_append]; omega) hN, impl_PutWord_eq, putWord_size, putWord_size]
    rfl

def sh (W : Int) : Nat → Int
  | 0 => W
  | d + 1 => sh W d / 256

theorem sh_pow (W : Int) : ∀ {d : Nat}, d < 3 → Int.fdiv W (2 ^ (Min.min (8 * d) 64)) = sh W d
  | 0, _ => by rw [fdiv_lit _ (by decide)]; show W / 1 = W; omega
  | 1, _ => by rw [fdiv_lit _ (by decide)]; rfl
  | 2, _ => by rw [fdiv_lit _ (by decide)]; show W / 65536 = W / 256 / 256; omega
  | d + 3, h => by omega

def cryptW (s : ByteArray) (n : Int) (q : Nat) : Int := mix (s ++ putWord n ++ putWord (q : Int)) 11

def xb (x c : Int) : Int := IntKind.wrap .u8 (((BitVec.ofInt 8 x ^^^ BitVec.ofInt 8 (IntKind.wrap .u8 c)).toNat : Nat) : Int)

def cryptB (s : ByteArray) (n : Int) (i : Nat) (x : Int) : Int := xb x (sh (cryptW s n (i / 3)) (i % 3))

def cryptL (s : ByteArray) (n : Int) (l : List Int) : List Int := (List.range l.length).map fun i => atD l i (cryptB s n i) 0

theorem cryptL_length (s : ByteArray) (n : Int) (l : List Int) : (cryptL s n l).length = l.length := by simp [cryptL]

theorem nth_cryptL {s : ByteArray} {n : Int} {l : List Int} {i : Nat} {x : Int} (h : nth l i = some x) : nth (cryptL s n l) i = some (cryptB s n i x) := by
  have hi := nth_lt h
  unfold cryptL
  rw [nth_map, nth_eq, List.getElem?_range hi]
  show some (atD l i (cryptB s n i) 0) = _
  rw [atD_some h]

theorem cryptL_of {s : ByteArray} {n : Int} {l ys : List Int} (hl : ys.length = l.length) (h : ∀ j x, nth l j = some x → nth ys j = some (cryptB s n j x)) : ys = cryptL s n l := by
  refine ext_nth fun j => ?_
  rcases Nat.lt_or_ge j l.length with hj | hj
  · obtain ⟨x, hx⟩ := nth_some hj
    rw [h j x hx, nth_cryptL hx]
  · rw [nth_none (by omega), nth_none (by rw [cryptL_length]; exact hj)]

def cryptBad (s t : ByteArray) : Bool := longB s || decide ((t.size : Int) > 65536)

def crypt (s : ByteArray) (n : Int) (t : ByteArray) : ByteArray := cond (cryptBad s t) ⟨[].toArray⟩ (toBytes (cryptL s n (ofBytes t)))

theorem spec_Crypt_go {s : ByteArray} {n : Int} {l : List Int} (hs : s.size ≤ 4096) (hl : l.length ≤ 65536) (hN : 2 ^ 40 < N) (kN : List Int → Option R) : l_spec_Crypt_0 N (s ++ putWord n) false kN N 0 0 l = kN (cryptL s n l) := by
  obtain ⟨h1, h2, _, h4, _⟩ := fold (fun f i (st : Int × List Int) => l_spec_Crypt_0 N (s ++ putWord n) false kN f st.1 i st.2) l.length
    (fun i st => (cond (decide (i % 3 = 0)) (cryptW s n (i / 3)) st.1, nset st.2 i (atD st.2 i (fun x => xb x (sh (cond (decide (i % 3 = 0)) (cryptW s n (i / 3)) st.1) (i % 3))) 0)))
    (fun i st => st.2.length = l.length ∧ (i % 3 ≠ 0 → st.1 = cryptW s n (i / 3)) ∧ (∀ j x, j < i → nth l j = some x → nth st.2 j = some (cryptB s n j x)) ∧ ∀ j, i ≤ j → nth st.2 j = nth l j) (fun st => kN st.2)
    (fun f i st0 hi hst => by
      obtain ⟨w, ys⟩ := st0
      obtain ⟨i1, i2, i3, i4⟩ := hst
      dsimp only at i1 i2 i3 i4
      have hiy : i < ys.length := by omega
      obtain ⟨x, hx⟩ := nth_some hiy
      have hm : (Int.tmod (i : Int) 3 == 0) = decide (i % 3 = 0) := by
        rw [tmod_nn (by omega), beq_dec]
        exact decide_eq_decide.2 (by omega)
      have hd : IntKind.wrap .i64 (Int.tdiv (i : Int) 3) = ((i / 3 : Nat) : Int) := by rw [tdiv_nn (by omega), w64 (by omega) (by omega)]; omega
      have h8 : IntKind.wrap .u64 (IntKind.wrap .i64 (8 * Int.tmod (i : Int) 3)) = ((8 * (i % 3) : Nat) : Int) := by
        rw [tmod_nn (by omega), w64 (by omega) (by omega), wu64 (by omega) (by omega)]; omega
      have hsz : (s ++ putWord n).size = s.size + 4 := by rw [ByteArray.size_append, putWord_size]
      have hsz2 : ∀ q : Int, (s ++ putWord n ++ putWord q).size = s.size + 8 := fun q => by rw [ByteArray.size_append, hsz, putWord_size]
      have hbig : ∀ q : Int, decide (((s ++ putWord n ++ putWord q).size : Int) > 65536) = false := fun q => decide_eq_false (by rw [hsz2]; omega)
      refine ⟨?_, by simpa using i1, fun hne => ?_, fun j y hj hy => ?_, fun j hj => ?_⟩
      · simp only [l_spec_Crypt_0, s_spec_Crypt_0, dec_lt hiy, dec_nn, Int.toNat_natCast, hm, hd, spec_PutWord_eq, hsz, putWord_size, ble_t (show s.size + 4 + 4 ≤ 9223372036854775807 by omega), spec_Mix_eq N hN, hbig, cond_true, cond_false, cond_somes, oK_some_eq, elemK_some hx, h8, decide_eq_false (show ¬ (((8 * (i % 3) : Nat) : Int) < 0) by omega), sh_pow _ (show i % 3 < 3 by omega), blt_t hiy, wrap_next hi (by omega), Bool.and_true, atD_some hx]
        rfl
      · dsimp only
        by_cases h0 : i % 3 = 0
        · rw [decide_eq_true h0, cond_true]; congr 1; omega
        · rw [decide_eq_false h0, cond_false, i2 h0]; congr 1; omega
      · dsimp only
        rw [nth_nset]
        split
        · rename_i hc
          have hji : j = i := by have := hc.1; omega
          rw [hji] at hy ⊢
          have hxy : x = y := by
            have := i4 i (Nat.le_refl _)
            rw [hx, hy] at this
            exact Option.some.inj this
          subst hxy
          rw [atD_some hx]
          unfold cryptB
          by_cases h0 : i % 3 = 0
          · rw [decide_eq_true h0, cond_true]
          · rw [decide_eq_false h0, cond_false, i2 h0]
        · rename_i hc
          exact i3 j y (by have : j ≠ i := fun e => hc ⟨e, by omega⟩; omega) hy
      · dsimp only
        rw [nth_nset, if_neg (fun e => by have := e.1; omega)]
        exact i4 j (by omega))
    (fun f st hst => by
      obtain ⟨w, ys⟩ := st
      have i1 : ys.length = l.length := hst.1
      simp only [l_spec_Crypt_0, s_spec_Crypt_0, i1, dec_nlt, cond_false]) (s := (0, l)) ⟨rfl, fun h => absurd rfl h, fun j x hj => absurd hj (by omega), fun _ _ => rfl⟩ (f := N) (by omega)
  refine h1.trans ?_
  congr 1
  exact cryptL_of h2 fun j x hx => h4 j x (nth_lt hx) hx

theorem spec_Crypt_eq {s : ByteArray} {n : Int} {t : ByteArray} (hN : 2 ^ 40 < N) (k : ByteArray → Option R) : g_spec_Crypt N s n t k = k (crypt s n t) := by
  unfold g_spec_Crypt crypt
  rw [cond_somes, oK_some_eq, Bool.cond_true_left]
  change cond (cryptBad s t) _ _ = _
  cases h : cryptBad s t with
  | true => rfl
  | false =>
    obtain ⟨h1, h2⟩ := Bool.or_eq_false_iff.1 h
    have h1 := longB_size h1
    have h2 := of_decide_eq_false h2
    simp only [cond_false, spec_PutWord_eq]
    rw [putWord_size, ble_t (by omega), cond_true]
    unfold c_spec_Crypt_0
    rw [spec_Crypt_go N h1 (by rw [ofBytes_length]; omega) hN, Nat.zero_add, ble_t (Nat.le_refl _), cond_true, seg_all]

theorem impl_Crypt_in {s : ByteArray} {n : Int} {i L : Nat} {W : Int} (hL : L ≤ 65536) (hi : i ≤ 65536) (kN : List Int → Option R) : ∀ (d j f : Nat) (ys : List Int), j + d = min L (i + 3) → i ≤ j → d < f → ys.length = L →
    ∃ ys', l_impl_Crypt_2 N s n false (i : Int) (L : Int) (i : Int) kN f (sh W (j - i)) (j : Int) ys = kN ys' ∧ ys'.length = L ∧ (∀ p x, j ≤ p → p < i + 3 → nth ys p = some x → nth ys' p = some (xb x (sh W (p - i)))) ∧ ∀ p, p < j ∨ i + 3 ≤ p → nth ys' p = nth ys p := by
  have hw : IntKind.wrap .i64 ((i : Int) + 3) = (i : Int) + 3 := w64 (by omega) (by omega)
  have hb : ∀ j : Nat, decide ((j : Int) < (if (decide ((L : Int) < (i : Int) + 3)) = true then (L : Int) else (i : Int) + 3)) = decide (j < min L (i + 3)) := fun j => by
    refine decide_eq_decide.2 ?_
    by_cases h : (L : Int) < (i : Int) + 3
    · rw [decide_eq_true h, if_pos rfl]; omega
    · rw [decide_eq_false h, if_neg (by simp)]; omega
  intro d
  induction d with
  | zero =>
    intro j f ys hj hij hf hys
    obtain ⟨f, rfl⟩ : ∃ g, f = g + 1 := ⟨f - 1, by omega⟩
    refine ⟨ys, ?_, hys, fun p x h1 h2 h3 => ?_, fun _ _ => rfl⟩
    · simp only [l_impl_Crypt_2, s_impl_Crypt_2, hys, hw, hb, decide_eq_false (show ¬ j < min L (i + 3) by omega), cond_false]
    · have := nth_lt h3; omega
  | succ d ih =>
    intro j f ys hj hij hf hys
    obtain ⟨f, rfl⟩ : ∃ g, f = g + 1 := ⟨f - 1, by omega⟩
    have hjL : j < ys.length := by omega
    obtain ⟨x, hx⟩ := nth_some hjL
    obtain ⟨ys', h1, h2, h3, h4⟩ := ih (j + 1) f (nset ys j (xb x (sh W (j - i)))) (by omega) (by omega) (by omega) (by simpa using hys)
    refine ⟨ys', ?_, h2, fun p y hp1 hp2 hy => ?_, fun p hp => ?_⟩
    · rw [← h1]
      have hjL2 : j < L := by omega
      have hs : sh W (j + 1 - i) = sh W (j - i) / 256 := by rw [show j + 1 - i = (j - i) + 1 by omega]; rfl
      rw [hs]
      simp only [l_impl_Crypt_2, s_impl_Crypt_2, hys, hw, hb, decide_eq_true (show j < min L (i + 3) by omega), dec_lt hjL2, dec_nn, Int.toNat_natCast, elemK_some hx, blt_t hjL2, wrap_next hjL2 (by omega), Bool.and_true, cond_true, fdiv_lit _ (show (0 : Int) ≤ 256 by omega)]
      rfl
    · by_cases hpj : p = j
      · subst hpj
        rw [h4 p (by omega), nth_nset, if_pos ⟨rfl, hjL⟩]
        rw [hx] at hy; cases hy; rfl
      · exact h3 p y (by omega) hp2 (by rw [nth_nset, if_neg (fun e => hpj e.1)]; exact hy)
    · rw [h4 p (by omega), nth_nset, if_neg (fun e => by have := e.1; omega)]

theorem impl_Crypt_go {s : ByteArray} {n : Int} {l : List Int} (hs : s.size ≤ 4096) (hl : l.length ≤ 65536) (hN : 2 ^ 40 < N) (kN : List Int → Option R) :
    ∀ (d i f : Nat) (ys : List Int), i + d = l.length → d < f → ys.length = l.length → (∀ p x, p < 3 * ((i + 2) / 3) → nth l p = some x → nth ys p = some (cryptB s n p x)) → (∀ p, 3 * ((i + 2) / 3) ≤ p → nth ys p = nth l p) → l_impl_Crypt_0 N s n false (l.length : Int) kN f (i : Int) ys = kN (cryptL s n l) := by
  intro d
  induction d with
  | zero =>
    intro i f ys hi hf hys h1 h2
    obtain ⟨f, rfl⟩ : ∃ g, f = g + 1 := ⟨f - 1, by omega⟩
    have : i = l.length := by omega
    subst this
    simp only [l_impl_Crypt_0, s_impl_Crypt_0, dec_nlt, cond_false]
    congr 1
    exact cryptL_of hys fun j x hx => h1 j x (by have := nth_lt hx; omega) hx
  | succ d ih =>
    intro i f ys hi hf hys h1 h2
    obtain ⟨f, rfl⟩ : ∃ g, f = g + 1 := ⟨f - 1, by omega⟩
    have hil : i < l.length := by omega
    have hm : (Int.tmod (i : Int) 3 == 0) = decide (i % 3 = 0) := by
      rw [tmod_nn (by omega), beq_dec]
      exact decide_eq_decide.2 (by omega)
    by_cases h0 : i % 3 = 0
    · have hd : IntKind.wrap .i64 (Int.tdiv (i : Int) 3) = ((i / 3 : Nat) : Int) := by rw [tdiv_nn (by omega), w64 (by omega) (by omega)]; omega
      have hsz : (catB [s, putWord n, putWord ((i / 3 : Nat) : Int)]).size = s.size + 8 := by
        rw [catB_size]; simp only [List.map_cons, List.map_nil, List.sum_cons, List.sum_nil, putWord_size]; omega
      have hcat : catB [s, putWord n, putWord ((i / 3 : Nat) : Int)] = s ++ putWord n ++ putWord ((i / 3 : Nat) : Int) := by
        simp only [catB]; rw [ba_append_empty, ByteArray.append_assoc]
      simp only [l_impl_Crypt_0, s_impl_Crypt_0, dec_lt hil, hm, decide_eq_true h0, cond_true, impl_PutWord_eq, hd]
      rw [impl_yjoinw_eq N (by simp) (by rw [hsz]; omega), impl_ymix_eq N (by rw [hsz]; omega) hN, hcat]
      unfold c_impl_Crypt_2
      obtain ⟨ys', e1, e2, e3, e4⟩ := impl_Crypt_in (R := R) N (s := s) (n := n) (i := i) (L := l.length) (W := cryptW s n (i / 3)) hl (by omega) (fun l2 => l_impl_Crypt_0 N s n false (l.length : Int) kN f (IntKind.wrap .i64 ((i : Int) + 1)) l2) (min l.length (i + 3) - i) i N ys (by omega) (Nat.le_refl _) (by omega) hys
      rw [Nat.sub_self] at e1
      refine Eq.trans e1 ?_
      rw [wrap_next hil (by omega)]
      refine ih (i + 1) f ys' (by omega) (by omega) e2 (fun p x hp hx => ?_) (fun p hp => ?_)
      · by_cases hpi : p < i
        · rw [e4 p (.inl hpi)]; exact h1 p x (by omega) hx
        · have hy : nth ys p = some x := by rw [h2 p (by omega)]; exact hx
          rw [e3 p x (by omega) (by omega) hy]
          unfold cryptB
          rw [show p / 3 = i / 3 by omega, show p % 3 = p - i by omega]
      · rw [e4 p (.inr (by omega))]; exact h2 p (by omega)
    · simp only [l_impl_Crypt_0, s_impl_Crypt_0, dec_lt hil, hm, decide_eq_false h0, cond_true, cond_false, wrap_next hil (show l.length ≤ 2 ^ 62 by omega)]
      refine ih (i + 1) f ys (by omega) (by omega) hys (fun p x hp hx => h1 p x (by omega) hx) (fun p hp => h2 p (by omega))

theorem impl_Crypt_eq {s : ByteArray} {n : Int} {t : ByteArray} (hN : 2 ^ 40 < N) (k : ByteArray → Option R) : g_impl_Crypt N s n t k = k (crypt s n t) := by
  unfold g_impl_Crypt crypt
  rw [longKey_eq N hN, ybig_eq N hN, cond_somes, oK_some_eq, Bool.cond_true_left]
  change cond (cryptBad s t) _ _ = _
  cases h : cryptBad s t with
  | true => rfl
  | false =>
    obtain ⟨h1, h2⟩ := Bool.or_eq_false_iff.1 h
    have h1 := longB_size h1
    have h2 := of_decide_eq_false h2
    simp only [cond_false]
    unfold c_impl_Crypt_0
    have hlen : (ofBytes t).length ≤ 65536 := by rw [ofBytes_length]; omega
    have := impl_Crypt_go (R := R) N (s := s) (n := n) (l := ofBytes t) h1 hlen hN (fun l3 => cond (Nat.ble (0 + l3.length) l3.length) (k (toBytes (seg l3 0 l3.length))) none) (ofBytes t).length 0 N (ofBytes t) (by omega) (by omega) rfl (fun p x hp => absurd hp (by omega)) (fun _ _ => rfl)
    refine this.trans ?_
    rw [Nat.zero_add, ble_t (Nat.le_refl _), cond_true, seg_all]


theorem xb_bound (x c : Int) : 0 ≤ xb x c ∧ xb x c < 256 := by unfold xb; rw [Go.Eng.wu8]; omega

theorem xb_xb {x : Int} (c : Int) (h0 : 0 ≤ x) (h1 : x < 256) : xb (xb x c) c = x := by
  obtain ⟨n, rfl⟩ := Int.eq_ofNat_of_zero_le h0
  have hn : n < 256 := by omega
  unfold xb
  generalize BitVec.ofInt 8 (IntKind.wrap .u8 c) = d
  have e1 : (BitVec.ofInt 8 (n : Int)) = BitVec.ofNat 8 n := by
    apply BitVec.eq_of_toNat_eq
    rw [BitVec.toNat_ofInt, BitVec.toNat_ofNat]
    omega
  have hlt : (BitVec.ofInt 8 (n : Int) ^^^ d).toNat < 256 := (BitVec.ofInt 8 (n : Int) ^^^ d).isLt
  have e2 : IntKind.wrap .u8 (((BitVec.ofInt 8 (n : Int) ^^^ d).toNat : Nat) : Int) = (((BitVec.ofInt 8 (n : Int) ^^^ d).toNat : Nat) : Int) := by rw [Go.Eng.wu8]; omega
  rw [e2]
  have e3 : BitVec.ofInt 8 ((((BitVec.ofInt 8 (n : Int) ^^^ d).toNat : Nat) : Int)) = BitVec.ofInt 8 (n : Int) ^^^ d := by
    apply BitVec.eq_of_toNat_eq
    rw [BitVec.toNat_ofInt]
    omega
  rw [e3, BitVec.xor_assoc, BitVec.xor_self, BitVec.xor_zero, e1, BitVec.toNat_ofNat, Go.Eng.wu8]
  omega

theorem ofBytes_bound {s : ByteArray} {i : Nat} {x : Int} (h : nth (ofBytes s) i = some x) : 0 ≤ x ∧ x < 256 := by
  have hi := nth_lt h
  rw [ofBytes_length] at hi
  rw [nth_ofBytes hi] at h
  cases h
  have := bt_bound s i
  omega

theorem cryptL_bound {s : ByteArray} {n : Int} {l : List Int} : ∀ x ∈ cryptL s n l, 0 ≤ x ∧ x < 256 := by
  intro x hx
  unfold cryptL at hx
  rw [List.mem_map] at hx
  obtain ⟨i, hi, rfl⟩ := hx
  unfold atD
  split
  · exact xb_bound _ _
  · omega

theorem crypt_size {s t : ByteArray} {n : Int} (h : cryptBad s t = false) : (crypt s n t).size = t.size := by
  unfold crypt
  rw [h, cond_false, toBytes_size, cryptL_length, ofBytes_length]

theorem cryptL_cryptL (s : ByteArray) (n : Int) (t : ByteArray) : cryptL s n (cryptL s n (ofBytes t)) = ofBytes t := by
  refine ext_nth fun j => ?_
  rcases Nat.lt_or_ge j (ofBytes t).length with hj | hj
  · obtain ⟨x, hx⟩ := nth_some hj
    obtain ⟨h0, h1⟩ := ofBytes_bound hx
    rw [nth_cryptL (nth_cryptL hx), hx]
    unfold cryptB
    rw [xb_xb _ h0 h1]
  · rw [nth_none (by rw [cryptL_length, cryptL_length]; exact hj), nth_none hj]

theorem crypt_crypt {s t : ByteArray} {n : Int} (h : cryptBad s t = false) : crypt s n (crypt s n t) = t := by
  have hsz := crypt_size (n := n) h
  have h2 : cryptBad s (crypt s n t) = false := by
    unfold cryptBad at h ⊢
    rw [hsz]; exact h
  have e : crypt s n t = toBytes (cryptL s n (ofBytes t)) := by unfold crypt; rw [h, cond_false]
  rw [show crypt s n (crypt s n t) = toBytes (cryptL s n (ofBytes (crypt s n t))) by rw [crypt, h2, cond_false], e, ofBytes_toBytes cryptL_bound, cryptL_cryptL, toBytes_ofBytes]

def sealOk (n : Int) (l : List Int) : Bool := regsOk l && (decide (0 ≤ n) && decide (n < 2 ^ l.length))

theorem regsOk_len {l : List Int} (h : regsOk l = true) : 1 ≤ l.length ∧ l.length ≤ 8 := by
  unfold regsOk at h
  simp only [Bool.and_eq_true, decide_eq_true_eq] at h
  exact h.1

theorem pow8 {m : Nat} (h : m ≤ 8) : (1 : Int) ≤ 2 ^ m ∧ (2 : Int) ^ m ≤ 256 := by
  match m, h with
  | 0, _ => exact ⟨by decide, by decide⟩
  | 1, _ => exact ⟨by decide, by decide⟩
  | 2, _ => exact ⟨by decide, by decide⟩
  | 3, _ => exact ⟨by decide, by decide⟩
  | 4, _ => exact ⟨by decide, by decide⟩
  | 5, _ => exact ⟨by decide, by decide⟩
  | 6, _ => exact ⟨by decide, by decide⟩
  | 7, _ => exact ⟨by decide, by decide⟩
  | 8, _ => exact ⟨by decide, by decide⟩
  | m + 9, h => omega

def bitI (n : Int) (i : Nat) : Bool := IntKind.wrap .i64 (((BitVec.ofInt 64 (Int.fdiv n (2 ^ (Min.min i 64))) &&& BitVec.ofInt 64 1).toNat : Nat) : Int) == 1

def sealKey (s : ByteArray) (n : Int) (l : List Int) : ByteArray := (List.range l.length).foldl (fun z i => atD l i (fun x => cond (bitI n i) (z ++ putWord (i : Int) ++ putWord x) z) z) s

def sealKeyI (s : ByteArray) (l : List Int) (i : Nat) (z : ByteArray) : Prop := z.size ≤ s.size + 8 * i

theorem spec_l15Mask_w_eq {n : Int} {l : List Int} {b : Bool} (hN : 2 ^ 40 < N) (k : Bool → Option R) : g_spec_l15Mask_w N b n l k = k (sealOk n l) := by
  unfold g_spec_l15Mask_w sealOk
  rw [spec_l15Regs_r_eq N hN]
  cases h : regsOk l with
  | false => rfl
  | true =>
    obtain ⟨h1, h2⟩ := regsOk_len h
    obtain ⟨p1, p2⟩ := pow8 h2
    have e : IntKind.wrap .i64 (1 * (2 : Int) ^ (Min.min (Int.toNat (IntKind.wrap .u64 (l.length : Int))) 64)) = 2 ^ l.length := by
      rw [wu64 (by omega) (by omega), Int.toNat_natCast, Nat.min_eq_left (by omega), Int.one_mul, w64 (by omega) (by omega)]
    rw [e]
    simp only [cond_true, cond_somes, oK_some_eq, Bool.true_and]
    congr 1
    cases decide (n ≥ 0) <;> rfl

theorem impl_ysealOk_w_eq {n : Int} {l : List Int} {b : Bool} (hN : 2 ^ 40 < N) (k : Bool → Option R) : g_impl_ysealOk_w N b n l k = k (sealOk n l) := by
  unfold g_impl_ysealOk_w sealOk
  rw [impl_yregsOk_r_eq N hN]
  cases h : regsOk l with
  | false => rfl
  | true =>
    obtain ⟨h1, h2⟩ := regsOk_len h
    obtain ⟨p1, p2⟩ := pow8 h2
    have e : IntKind.wrap .i64 (IntKind.wrap .i64 (1 * (2 : Int) ^ (Min.min (Int.toNat (l.length : Int)) 64)) - 1) = 2 ^ l.length - 1 := by
      rw [Int.toNat_natCast, Nat.min_eq_left (by omega), Int.one_mul, w64 (n := 2 ^ l.length) (by omega) (by omega), w64 (by omega) (by omega)]
    rw [e]
    simp only [cond_true, impl_yin_eq, oK_some_eq, Bool.true_and]
    congr 1
    congr 1
    exact decide_eq_decide.2 (by omega)

theorem spec_l15Key_w_eq {s : ByteArray} {n : Int} {l : List Int} {b : Bool} (hs : s.size ≤ 4032) (hl : l.length ≤ 8) (hN : 2 ^ 40 < N) (k : ByteArray → Option R) : g_spec_l15Key_w N s b n l k = k (sealKey s n l) := by
  unfold g_spec_l15Key_w c_spec_l15Key_w_0
  obtain ⟨h1, _⟩ := fold (fun f i z => l_spec_l15Key_w_0 N b n l (fun s4 => k s4) f z i) l.length (fun i z => atD l i (fun x => cond (bitI n i) (z ++ putWord (i : Int) ++ putWord x) z) z) (sealKeyI s l) k (fun f i z hi hz => by
      have hz : z.size ≤ s.size + 8 * i := hz
      obtain ⟨x, hx⟩ := nth_some hi
      have hu : IntKind.wrap .u64 (i : Int) = (i : Int) := wu64 (by omega) (by omega)
      have hb : ∀ y : Int, ((BitVec.ofInt 64 (Int.fdiv n (2 ^ (Min.min i 64))) &&& BitVec.ofInt 64 1).toNat : Int) = y → (IntKind.wrap .i64 y == 1) = bitI n i := fun y hy => by rw [← hy]; rfl
      have hsz : (z ++ putWord (i : Int)).size = z.size + 4 := by rw [ByteArray.size_append, putWord_size]
      refine ⟨?_, ?_⟩
      · simp only [l_spec_l15Key_w_0, s_spec_l15Key_w_0, dec_lt hi, hu, decide_eq_false (show ¬ ((i : Int) < 0) by omega), cond_false, cond_true, Int.toNat_natCast, hb _ rfl, spec_PutWord_eq, putWord_size, hsz, ble_t (show z.size + 4 ≤ 9223372036854775807 by omega), ble_t (show z.size + 4 + 4 ≤ 9223372036854775807 by omega), dec_nn, Bool.and_true, elemK_some hx, cond_somes, oK_some_eq, wrap_next hi (by omega), atD_some hx]
      · show (atD l i _ z).size ≤ _
        rw [atD_some hx]
        cases bitI n i
        · rw [cond_false]; omega
        · rw [cond_true, ByteArray.size_append, hsz, putWord_size]; omega) (fun f z _ => by
      simp only [l_spec_l15Key_w_0, s_spec_l15Key_w_0, dec_nlt, cond_false]) (s := s) (show s.size ≤ s.size + 8 * 0 by omega) (f := N) (by omega)
  exact h1

theorem spec_l15Mask_r_eq {n : Int} {l : List Int} {b : Bool} (hN : 2 ^ 40 < N) (k : Bool → Option R) : g_spec_l15Mask_r N b n l k = k (sealOk n l) := by
  unfold g_spec_l15Mask_r sealOk
  rw [spec_l15Regs_r_eq N hN]
  cases h : regsOk l with
  | false => rfl
  | true =>
    obtain ⟨h1, h2⟩ := regsOk_len h
    obtain ⟨p1, p2⟩ := pow8 h2
    have e : IntKind.wrap .i64 (1 * (2 : Int) ^ (Min.min (Int.toNat (IntKind.wrap .u64 (l.length : Int))) 64)) = 2 ^ l.length := by
      rw [wu64 (by omega) (by omega), Int.toNat_natCast, Nat.min_eq_left (by omega), Int.one_mul, w64 (by omega) (by omega)]
    rw [e]
    simp only [cond_true, cond_somes, oK_some_eq, Bool.true_and]
    congr 1
    cases decide (n ≥ 0) <;> rfl

theorem impl_ysealOk_r_eq {n : Int} {l : List Int} {b : Bool} (hN : 2 ^ 40 < N) (k : Bool → Option R) : g_impl_ysealOk_r N b n l k = k (sealOk n l) := by
  unfold g_impl_ysealOk_r sealOk
  rw [impl_yregsOk_r_eq N hN]
  cases h : regsOk l with
  | false => rfl
  | true =>
    obtain ⟨h1, h2⟩ := regsOk_len h
    obtain ⟨p1, p2⟩ := pow8 h2
    have e : IntKind.wrap .i64 (IntKind.wrap .i64 (1 * (2 : Int) ^ (Min.min (Int.toNat (l.length : Int)) 64)) - 1) = 2 ^ l.length - 1 := by
      rw [Int.toNat_natCast, Nat.min_eq_left (by omega), Int.one_mul, w64 (n := 2 ^ l.length) (by omega) (by omega), w64 (by omega) (by omega)]
    rw [e]
    simp only [cond_true, impl_yin_eq, oK_some_eq, Bool.true_and]
    congr 1
    congr 1
    exact decide_eq_decide.2 (by omega)

theorem spec_l15Key_r_eq {s : ByteArray} {n : Int} {l : List Int} {b : Bool} (hs : s.size ≤ 4032) (hl : l.length ≤ 8) (hN : 2 ^ 40 < N) (k : ByteArray → Option R) : g_spec_l15Key_r N s b n l k = k (sealKey s n l) := by
  unfold g_spec_l15Key_r c_spec_l15Key_r_0
  obtain ⟨h1, _⟩ := fold (fun f i z => l_spec_l15Key_r_0 N b n l (fun s4 => k s4) f z i) l.length (fun i z => atD l i (fun x => cond (bitI n i) (z ++ putWord (i : Int) ++ putWord x) z) z) (sealKeyI s l) k (fun f i z hi hz => by
      have hz : z.size ≤ s.size + 8 * i := hz
      obtain ⟨x, hx⟩ := nth_some hi
      have hu : IntKind.wrap .u64 (i : Int) = (i : Int) := wu64 (by omega) (by omega)
      have hb : ∀ y : Int, ((BitVec.ofInt 64 (Int.fdiv n (2 ^ (Min.min i 64))) &&& BitVec.ofInt 64 1).toNat : Int) = y → (IntKind.wrap .i64 y == 1) = bitI n i := fun y hy => by rw [← hy]; rfl
      have hsz : (z ++ putWord (i : Int)).size = z.size + 4 := by rw [ByteArray.size_append, putWord_size]
      refine ⟨?_, ?_⟩
      · simp only [l_spec_l15Key_r_0, s_spec_l15Key_r_0, dec_lt hi, hu, decide_eq_false (show ¬ ((i : Int) < 0) by omega), cond_false, cond_true, Int.toNat_natCast, hb _ rfl, spec_PutWord_eq, putWord_size, hsz, ble_t (show z.size + 4 ≤ 9223372036854775807 by omega), ble_t (show z.size + 4 + 4 ≤ 9223372036854775807 by omega), dec_nn, Bool.and_true, elemK_some hx, cond_somes, oK_some_eq, wrap_next hi (by omega), atD_some hx]
      · show (atD l i _ z).size ≤ _
        rw [atD_some hx]
        cases bitI n i
        · rw [cond_false]; omega
        · rw [cond_true, ByteArray.size_append, hsz, putWord_size]; omega) (fun f z _ => by
      simp only [l_spec_l15Key_r_0, s_spec_l15Key_r_0, dec_nlt, cond_false]) (s := s) (show s.size ≤ s.size + 8 * 0 by omega) (f := N) (by omega)
  exact h1

theorem impl_ysealKey_w_eq {s : ByteArray} {n : Int} {l : List Int} {b : Bool} (hs : s.size ≤ 4032) (hl : l.length ≤ 8) (hN : 2 ^ 40 < N) (k : ByteArray → Option R) : g_impl_ysealKey_w N s b n l k = k (sealKey s n l) := by
  unfold g_impl_ysealKey_w c_impl_ysealKey_w_0
  obtain ⟨h1, _⟩ := fold (fun f i z => l_impl_ysealKey_w_0 N n b (l.length : Int) l (fun s5 => k s5) f z i) l.length (fun i z => atD l i (fun x => cond (bitI n i) (z ++ putWord (i : Int) ++ putWord x) z) z) (sealKeyI s l) k (fun f i z hi hz => by
      have hz : z.size ≤ s.size + 8 * i := hz
      obtain ⟨x, hx⟩ := nth_some hi
      have hb : ∀ y : Int, ((BitVec.ofInt 64 (Int.fdiv n (2 ^ (Min.min i 64))) &&& BitVec.ofInt 64 1).toNat : Int) = y → (IntKind.wrap .i64 y == 1) = bitI n i := fun y hy => by rw [← hy]; rfl
      have hsz : (z ++ putWord (i : Int) ++ putWord x).size = z.size + 8 := by rw [ByteArray.size_append, ByteArray.size_append, putWord_size, putWord_size]
      have hcat : catB [z, putWord (i : Int), putWord x] = z ++ putWord (i : Int) ++ putWord x := by
        simp only [catB]; rw [ba_append_empty, ByteArray.append_assoc]
      have hj : ∀ K : ByteArray → Option ByteArray, g_impl_yjoin_w N false [z, putWord (i : Int), putWord x] K = K (z ++ putWord (i : Int) ++ putWord x) := fun K => by
        rw [impl_yjoinw_eq N (by simp) (by rw [hcat, hsz]; omega), hcat]
      refine ⟨?_, ?_⟩
      · simp only [l_impl_ysealKey_w_0, s_impl_ysealKey_w_0, dec_lt hi, decide_eq_false (show ¬ ((i : Int) < 0) by omega), cond_false, cond_true, Int.toNat_natCast, hb _ rfl, impl_PutWord_eq, hj, dec_nn, Bool.and_true, elemK_some hx, cond_somes, oK_some_eq, wrap_next hi (by omega), atD_some hx]
      · show (atD l i _ z).size ≤ _
        rw [atD_some hx]
        cases bitI n i
        · rw [cond_false]; omega
        · rw [cond_true, hsz]; omega) (fun f z _ => by
      simp only [l_impl_ysealKey_w_0, s_impl_ysealKey_w_0, dec_nlt, cond_false]) (s := s) (show s.size ≤ s.size + 8 * 0 by omega) (f := N) (by omega)
  exact h1

def sealBad (s s1 : ByteArray) (l : List Int) : Bool := decide ((s.size : Int) > 4032) || (longB s1 || decide ((l.length : Int) > 1000))

def sealF (s : ByteArray) (n : Int) (s1 : ByteArray) (l : List Int) (k : Int → Int → ByteArray → ByteArray → Option R) : Option R :=
  cond (sealBad s s1 l) (k 2 0 ⟨[].toArray⟩ ⟨[].toArray⟩) (cond (!sealOk n l) (k 1 0 ⟨[].toArray⟩ ⟨[].toArray⟩) (k 0 n (crypt (sealKey s n l) 1 s1) (tagOf (sealKey s n l) (crypt (sealKey s n l) 1 s1))))

theorem sealBad_facts {s s1 : ByteArray} {l : List Int} (h : sealBad s s1 l = false) : s.size ≤ 4032 := by
  have := of_decide_eq_false (Bool.or_eq_false_iff.1 h).1
  omega

theorem sealOk_len {n : Int} {l : List Int} (h : sealOk n l = true) : l.length ≤ 8 := by
  unfold sealOk at h
  simp only [Bool.and_eq_true] at h
  exact (regsOk_len h.1).2

theorem spec_Seal_eq {s : ByteArray} {n : Int} {s1 : ByteArray} {l : List Int} {b : Bool} (hN : 2 ^ 40 < N) (k : Int → Int → ByteArray → ByteArray → Option R) : g_spec_Seal_w N s b n s1 l k = sealF s n s1 l k := by
  unfold g_spec_Seal_w sealF
  simp only [cond_somes, oK_some_eq, Bool.cond_true_left, spec_l15Mask_w_eq N hN]
  change cond (sealBad s s1 l) _ _ = _
  cases h : sealBad s s1 l with
  | true => rfl
  | false =>
    simp only [cond_false]
    cases h2 : sealOk n l with
    | false => rfl
    | true =>
      simp only [Bool.not_true, cond_false]
      rw [spec_l15Key_w_eq N (sealBad_facts h) (sealOk_len h2) hN, spec_Crypt_eq N hN, spec_TagOf_eq N hN]

theorem impl_Seal_eq {s : ByteArray} {n : Int} {s1 : ByteArray} {l : List Int} {b : Bool} (hN : 2 ^ 40 < N) (k : Int → Int → ByteArray → ByteArray → Option R) : g_impl_Seal_w N s b n s1 l k = sealF s n s1 l k := by
  unfold g_impl_Seal_w sealF
  simp only [longKey_eq N hN, cond_somes, oK_some_eq, Bool.cond_true_left, impl_ysealOk_w_eq N hN]
  change cond (sealBad s s1 l) _ _ = _
  cases h : sealBad s s1 l with
  | true => rfl
  | false =>
    simp only [cond_false]
    cases h2 : sealOk n l with
    | false => rfl
    | true =>
      simp only [Bool.not_true, cond_false]
      rw [impl_ysealKey_w_eq N (sealBad_facts h) (sealOk_len h2) hN, impl_Crypt_eq N hN, impl_TagOf_eq N hN]

def unsealF (s : ByteArray) (n n1 : Int) (s1 s2 : ByteArray) (l : List Int) (k : Int → ByteArray → Option R) : Option R :=
  cond (sealBad s s1 l) (k 2 ⟨[].toArray⟩) (cond ((n != 0) || !sealOk n1 l) (k 1 ⟨[].toArray⟩) (cond (!decide (tagOf (sealKey s n1 l) s1 = s2)) (k 7 ⟨[].toArray⟩) (k 0 (crypt (sealKey s n1 l) 1 s1))))

theorem spec_Unseal_eq {s : ByteArray} {n n1 : Int} {s1 s2 : ByteArray} {l : List Int} {b : Bool} (hN : 2 ^ 40 < N) (k : Int → ByteArray → Option R) : g_spec_Unseal_r N s b n n1 s1 s2 l k = unsealF s n n1 s1 s2 l k := by
  unfold g_spec_Unseal_r unsealF
  simp only [cond_somes, oK_some_eq, Bool.cond_true_left, spec_l15Mask_r_eq N hN]
  change cond (sealBad s s1 l) _ _ = _
  cases h : sealBad s s1 l with
  | true => rfl
  | false =>
    simp only [cond_false]
    cases h2 : ((n != 0) || !sealOk n1 l) with
    | true => rfl
    | false =>
      have h3 : sealOk n1 l = true := by simpa using (Bool.or_eq_false_iff.1 h2).2
      simp only [cond_false]
      rw [spec_l15Key_r_eq N (sealBad_facts h) (sealOk_len h3) hN, spec_TagOf_eq N hN, spec_Crypt_eq N hN]

theorem impl_Unseal_eq {s : ByteArray} {n n1 : Int} {s1 s2 : ByteArray} {l : List Int} {b : Bool} (hN : 2 ^ 40 < N) (k : Int → ByteArray → Option R) : g_impl_Unseal_w N s b n n1 s1 s2 l k = unsealF s n n1 s1 s2 l k := by
  unfold g_impl_Unseal_w unsealF
  simp only [longKey_eq N hN, cond_somes, oK_some_eq, Bool.cond_true_left, impl_ysealOk_r_eq N hN]
  rw [Bool.or_comm (!sealOk n1 l)]
  change cond (sealBad s s1 l) _ _ = _
  cases h : sealBad s s1 l with
  | true => rfl
  | false =>
    simp only [cond_false]
    cases h2 : ((n != 0) || !sealOk n1 l) with
    | true => rfl
    | false =>
      have h3 : sealOk n1 l = true := by simpa using (Bool.or_eq_false_iff.1 h2).2
      simp only [cond_false]
      rw [impl_ysealKey_w_eq N (sealBad_facts h) (sealOk_len h3) hN, impl_TagOf_eq N hN, impl_Crypt_eq N hN]

theorem sealKey_congr {s : ByteArray} {n : Int} {l l' : List Int} (hl : l.length = l'.length) (h : ∀ i x, nth l i = some x → bitI n i = true → nth l' i = some x) : sealKey s n l = sealKey s n l' := by
  unfold sealKey
  rw [← hl]
  refine foldl_cong _ _ fun z i hi => ?_
  have hi := List.mem_range.1 hi
  obtain ⟨x, hx⟩ := nth_some (l := l) (n := i) hi
  obtain ⟨y, hy⟩ := nth_some (l := l') (n := i) (by omega)
  rw [atD_some hx, atD_some hy]
  cases hb : bitI n i with
  | false => rfl
  | true =>
    have := h i x hx hb
    rw [hy] at this
    cases this
    rfl

theorem seal_unseal {s : ByteArray} {n : Int} {s1 : ByteArray} {l l' : List Int} (hb : sealBad s s1 l = false) (ho : sealOk n l = true) (hl : l.length = l'.length) (ho' : sealOk n l' = true) (h : ∀ i x, nth l i = some x → bitI n i = true → nth l' i = some x) (k : Int → ByteArray → Option R) :
    unsealF s 0 n (crypt (sealKey s n l) 1 s1) (tagOf (sealKey s n l) (crypt (sealKey s n l) 1 s1)) l' k = k 0 s1 := by
  have hk := sealKey_congr (s := s) hl h
  have hlen := sealOk_len ho
  have hs := sealBad_facts hb
  have hksz : (sealKey s n l).size ≤ 4096 := by
    have key : ∀ (m : Nat) (z : ByteArray), ((List.range m).foldl (fun z i => atD l i (fun x => cond (bitI n i) (z ++ putWord (i : Int) ++ putWord x) z) z) z).size ≤ z.size + 8 * m := by
      intro m
      induction m with
      | zero => intro z; exact Nat.le_refl _
      | succ m ih =>
        intro z
        rw [List.range_succ, List.foldl_append, List.foldl_cons, List.foldl_nil]
        have := ih z
        generalize (List.range m).foldl (fun z i => atD l i (fun x => cond (bitI n i) (z ++ putWord (i : Int) ++ putWord x) z) z) z = w at this ⊢
        unfold atD
        cases nth l m with
        | none => simp only; omega
        | some x =>
          cases hbt : bitI n m with
          | false => simp only [hbt, cond_false]; omega
          | true => simp only [hbt, cond_true, ByteArray.size_append, putWord_size]; omega
    have := key l.length s
    unfold sealKey
    omega
  have hkl : longB (sealKey s n l) = false := by unfold longB; exact decide_eq_false (by omega)
  have hb1 : longB s1 = false := by
    unfold sealBad at hb
    simp only [Bool.or_eq_false_iff] at hb
    exact hb.2.1
  have hs1 := longB_size hb1
  have hcb : cryptBad (sealKey s n l) s1 = false := by unfold cryptBad; rw [hkl, decide_eq_false (by omega)]; rfl
  have hcs := crypt_size (n := 1) hcb
  have hbad : sealBad s (crypt (sealKey s n l) 1 s1) l' = false := by
    unfold sealBad
    have h2 : longB (crypt (sealKey s n l) 1 s1) = false := by unfold longB; rw [hcs]; exact decide_eq_false (by omega)
    rw [h2, decide_eq_false (show ¬ (s.size : Int) > 4032 by omega), decide_eq_false (show ¬ (l'.length : Int) > 1000 by omega)]
    rfl
  unfold unsealF
  rw [hbad, cond_false, bne_self_eq_false, ho', Bool.not_true, Bool.or_self, cond_false, ← hk, decide_eq_true rfl, Bool.not_true, cond_false, crypt_crypt hcb]


theorem tagOf_size {s s1 : ByteArray} (h : (longB s || longB s1) = false) : (tagOf s s1).size = 8 := by
  unfold tagOf
  rw [h, cond_false, ByteArray.size_append, putWord_size, putWord_size]

theorem longB_of {s : ByteArray} (h : s.size ≤ 4096) : longB s = false := by unfold longB; exact decide_eq_false (by omega)

theorem ext_size (s : ByteArray) (a b : Nat) : (s.extract a b).size ≤ s.size := by rw [ByteArray.size_extract]; omega

theorem src_spoil {s : ByteArray} {b : Bool} {p m z : Int} {l : List Int} (hs : s.size ≤ 2 ^ 20) (hl : l.length ≤ 2 ^ 30) (hp : 0 ≤ p ∧ p ≤ 2 ^ 40) :
    ∃ (s' : ByteArray) (p' m' : Int), ∀ k : ByteArray → Int → Int → Option R, g_spec_l01Src_spoil_Wr N s b p m z l k = k s' p' m' := by
  obtain ⟨v1, p1, m1, a0, a1, a3, hp1, h1⟩ := src_n (R := R) N (n := ((s.size + 1 : Nat) : Int)) (b := b) (m := m) (z := z) (by omega) hl hp
  obtain ⟨w, rfl⟩ := Int.eq_ofNat_of_zero_le a0
  have hw : w ≤ s.size := by omega
  obtain ⟨v2, p2, m2, c0, c1, _, hp2, h2⟩ := src_n (R := R) N (n := 14) (b := b) (m := m1) (z := z) (by omega) hl hp1
  have c2 := c1 (by omega)
  obtain ⟨b3, p3, m3, hp3, h3⟩ := src_one (R := R) N (n := 3) (b := b) (m := m2) (z := z) (by omega) hl hp2
  obtain ⟨b4, p4, m4, hp4, h4⟩ := src_one (R := R) N (n := 2) (b := b) (m := m3) (z := z) (by omega) hl hp3
  have eW : IntKind.wrap .i64 ((s.size : Int) + 1) = ((s.size + 1 : Nat) : Int) := by rw [w64 (by omega) (by omega)]; omega
  have eX : ∀ v : Int, (toBytes (seg [v] 0 (List.length [v]))).size = 1 := fun v => by rw [toBytes_size]; rfl
  have d1 : decide ((w : Int) ≤ (s.size : Int)) = true := decide_eq_true (by omega)
  have d2 : decide ((s.size : Int) ≤ (s.size : Int)) = true := decide_eq_true (by omega)
  have x1 := fun a b => ext_size s a b
  by_cases he : w = s.size
  · have d3 : ((w : Int) == (s.size : Int)) = true := by rw [beq_dec]; exact decide_eq_true (by omega)
    apply Exists.intro; apply Exists.intro; apply Exists.intro
    intro k
    unfold g_spec_l01Src_spoil_Wr
    rw [eW, h1, h2, in_rng c0 c2, cond_true, d3, cond_true, dec_nn, d1, d2]
    simp -implicitDefEqProofs only [Bool.and_true, cond_true]
    rw [ble_t (by rw [eX]; have := x1 0 (Int.toNat (w : Int)); omega), cond_true, ble_t (by rw [ByteArray.size_append, eX]; have := x1 0 (Int.toNat (w : Int)); have := x1 (Int.toNat (w : Int)) (Int.toNat (s.size : Int)); omega), cond_true]
  · have d3 : ((w : Int) == (s.size : Int)) = false := by rw [beq_dec]; exact decide_eq_false (by omega)
    have e1 : IntKind.wrap .i64 ((w : Int) + 1) = ((w + 1 : Nat) : Int) := by rw [w64 (by omega) (by omega)]; omega
    have d4 : decide (((w + 1 : Nat) : Int) ≤ (s.size : Int)) = true := decide_eq_true (by omega)
    cases b3 with
    | true =>
      apply Exists.intro; apply Exists.intro; apply Exists.intro
      intro k
      unfold g_spec_l01Src_spoil_Wr
      rw [eW, h1, h2, in_rng c0 c2, cond_true, d3, cond_false, h3, cond_true, dec_nn, d1, d2]
      simp -implicitDefEqProofs only [Bool.and_true, cond_true]
      rw [ble_t (by rw [eX]; have := x1 0 (Int.toNat (w : Int)); omega), cond_true, ble_t (by rw [ByteArray.size_append, eX]; have := x1 0 (Int.toNat (w : Int)); have := x1 (Int.toNat (w : Int)) (Int.toNat (s.size : Int)); omega), cond_true]
    | false =>
      cases b4 with
      | true =>
        apply Exists.intro; apply Exists.intro; apply Exists.intro
        intro k
        unfold g_spec_l01Src_spoil_Wr
        rw [eW, h1, h2, in_rng c0 c2, cond_true, d3, cond_false, h3, cond_false, h4, cond_true, e1, dec_nn, dec_nn, d1, d2, d4]
        simp -implicitDefEqProofs only [Bool.and_true, cond_true]
        rw [ble_t (by have := x1 0 (Int.toNat (w : Int)); have := x1 (Int.toNat ((w + 1 : Nat) : Int)) (Int.toNat (s.size : Int)); omega), cond_true]
      | false =>
        apply Exists.intro; apply Exists.intro; apply Exists.intro
        intro k
        unfold g_spec_l01Src_spoil_Wr
        rw [eW, h1, h2, in_rng c0 c2, cond_true, d3, cond_false, h3, cond_false, h4, cond_false, e1, dec_nn, dec_nn, d1, d2, d4]
        simp -implicitDefEqProofs only [Bool.and_true, cond_true]
        rw [ble_t (by rw [eX]; have := x1 0 (Int.toNat (w : Int)); omega), cond_true, ble_t (by rw [ByteArray.size_append, eX]; have := x1 0 (Int.toNat (w : Int)); have := x1 (Int.toNat ((w + 1 : Nat) : Int)) (Int.toNat (s.size : Int)); omega), cond_true]

theorem mask_bound (n : Nat) (h : n ≤ 100) : IntKind.wrap .i64 (1 * (2 : Int) ^ (Min.min (IntKind.wrap .u64 (n : Int)).toNat 64)) ≤ 2 ^ 62 := by
  have : ∀ n : Fin 101, IntKind.wrap .i64 (1 * (2 : Int) ^ (Min.min (IntKind.wrap .u64 ((n.val : Nat) : Int)).toNat 64)) ≤ 2 ^ 62 := by decide +kernel
  exact this ⟨n, by omega⟩

theorem DrawSeal_ok {b : Bool} {l : List Int} (hl : l.length ≤ 2 ^ 30) (hN : 2 ^ 40 < N) : ∃ (s : ByteArray) (b1 : Bool) (n : Int) (s1 : ByteArray) (L : List Int), s.size ≤ 5000 ∧ s1.size ≤ 5000 ∧ L.length ≤ 100 ∧ ∀ k : ByteArray → Bool → Int → ByteArray → List Int → Option R, g_spec_DrawSeal_r N b l k = k s b1 n s1 L := by
  obtain ⟨m, z, _, _, h0⟩ := src_of (R := R) N (b := b) hl hN
  obtain ⟨b1, p1, m1, L, hL, hp1, h1⟩ := src_regs (R := R) N (b := b) (p := 0) (m := m) (z := z) hl (by omega) hN
  obtain ⟨v2, p2, m2, _, _, _, hp2, h2⟩ := src_n (R := R) N (b := b) (m := m1) (z := z) (mask_bound L.length hL) hl hp1
  obtain ⟨b3, p3, m3, hp3, h3⟩ := src_one (R := R) N (n := 12) (b := b) (m := m2) (z := z) (by omega) hl hp2
  cases b3 with
  | true =>
    obtain ⟨v4, p4, m4, a0, a1, _, hp4, h4⟩ := src_n (R := R) N (n := 2) (b := b) (m := m3) (z := z) (by omega) hl hp3
    have a2 := a1 (by omega)
    have a3 : v4 < (([(-(1 : Int)), IntKind.wrap .i64 (1 * (2 : Int) ^ (Min.min (IntKind.wrap .u64 ((L.length : Nat) : Int)).toNat 64))].length : Nat) : Int) := by simpa using a2
    obtain ⟨x, _, hk⟩ := pick_lit (R := R) (L := [(-(1 : Int)), IntKind.wrap .i64 (1 * (2 : Int) ^ (Min.min (IntKind.wrap .u64 ((L.length : Nat) : Int)).toNat 64))]) a0 a3
    obtain ⟨s, p5, m5, hs, hp5, h5⟩ := src_key (R := R) N (b := b) (m := m4) (z := z) hl hp4 hN
    obtain ⟨s1, p6, m6, hs1, hp6, h6⟩ := src_key (R := R) N (b := b) (m := m5) (z := z) hl hp5 hN
    exact ⟨s, b1, x, s1, L, hs, hs1, hL, fun k => by unfold g_spec_DrawSeal_r; rw [h0, h1, h2, h3, cond_true, h4, in_rng a0 a3, cond_true, hk]; exact (h5 _).trans (h6 _)⟩
  | false =>
    obtain ⟨s, p5, m5, hs, hp5, h5⟩ := src_key (R := R) N (b := b) (m := m3) (z := z) hl hp3 hN
    obtain ⟨s1, p6, m6, hs1, hp6, h6⟩ := src_key (R := R) N (b := b) (m := m5) (z := z) hl hp5 hN
    exact ⟨s, b1, v2, s1, L, hs, hs1, hL, fun k => by unfold g_spec_DrawSeal_r; rw [h0, h1, h2, h3, cond_false, h5, h6]⟩

theorem sealKey_size {s : ByteArray} {n : Int} {l : List Int} (hs : s.size ≤ 4032) (hlen : l.length ≤ 8) : (sealKey s n l).size ≤ 4096 := by
  have key : ∀ (m : Nat) (z : ByteArray), ((List.range m).foldl (fun z i => atD l i (fun x => cond (bitI n i) (z ++ putWord (i : Int) ++ putWord x) z) z) z).size ≤ z.size + 8 * m := by
    intro m
    induction m with
    | zero => intro z; exact Nat.le_refl _
    | succ m ih =>
      intro z
      rw [List.range_succ, List.foldl_append, List.foldl_cons, List.foldl_nil]
      have := ih z
      generalize (List.range m).foldl (fun z i => atD l i (fun x => cond (bitI n i) (z ++ putWord (i : Int) ++ putWord x) z) z) z = w at this ⊢
      unfold atD
      cases nth l m with
      | none => simp only; omega
      | some x =>
        cases hbt : bitI n m with
        | false => simp only [hbt, cond_false]; omega
        | true => simp only [hbt, cond_true, ByteArray.size_append, putWord_size]; omega
  have := key l.length s
  unfold sealKey
  omega

theorem sealF_res (s : ByteArray) (n : Int) (s1 : ByteArray) (l : List Int) : ∃ (a c : Int) (t u : ByteArray), t.size ≤ 4096 ∧ u.size ≤ 4096 ∧ ∀ k : Int → Int → ByteArray → ByteArray → Option R, sealF s n s1 l k = k a c t u := by
  unfold sealF
  cases hb : sealBad s s1 l with
  | true => exact ⟨2, 0, _, _, by decide, by decide, fun k => rfl⟩
  | false =>
    cases ho : sealOk n l with
    | false => exact ⟨1, 0, _, _, by decide, by decide, fun k => rfl⟩
    | true =>
      have hk := sealKey_size (s := s) (n := n) (l := l) (sealBad_facts hb) (sealOk_len ho)
      have hb1 : longB s1 = false := by
        unfold sealBad at hb
        simp only [Bool.or_eq_false_iff] at hb
        exact hb.2.1
      have hs1 := longB_size hb1
      have hcb : cryptBad (sealKey s n l) s1 = false := by unfold cryptBad; rw [longB_of hk, decide_eq_false (by omega)]; rfl
      refine ⟨0, n, _, _, ?_, ?_, fun k => rfl⟩
      · rw [crypt_size hcb]; exact hs1
      · rw [tagOf_size (by rw [longB_of hk, longB_of (by rw [crypt_size hcb]; exact hs1)]; rfl)]; omega

theorem unsealF_res (s : ByteArray) (n n1 : Int) (s1 s2 : ByteArray) (l : List Int) : ∃ (a : Int) (t : ByteArray), ∀ k : Int → ByteArray → Option R, unsealF s n n1 s1 s2 l k = k a t := by
  unfold unsealF
  cases sealBad s s1 l with
  | true => exact ⟨_, _, fun k => rfl⟩
  | false =>
    cases (n != 0) || !sealOk n1 l with
    | true => exact ⟨_, _, fun k => rfl⟩
    | false =>
      cases decide (tagOf (sealKey s n1 l) s1 = s2) with
      | true => exact ⟨_, _, fun k => rfl⟩
      | false => exact ⟨_, _, fun k => rfl⟩


theorem DrawUnseal_ok {b : Bool} {l : List Int} (hl : l.length ≤ 2 ^ 30) (hN : 2 ^ 40 < N) : ∃ (s : ByteArray) (b1 : Bool) (n n1 : Int) (s1 s2 : ByteArray) (L : List Int), ∀ k : ByteArray → Bool → Int → Int → ByteArray → ByteArray → List Int → Option R, g_spec_DrawUnseal_r N b l k = k s b1 n n1 s1 s2 L := by
  obtain ⟨m, z, _, _, h0⟩ := src_of (R := R) N (b := b) hl hN
  obtain ⟨s, b1, n, t, L, hs, _, hL, h1⟩ := DrawSeal_ok (R := R) N (b := b) hl hN
  obtain ⟨a, c, t1, t2, ht1, ht2, h2⟩ := sealF_res (R := R) s n t L
  obtain ⟨v5, p5, m5, a0, a1, _, hp5, h5⟩ := src_n (R := R) N (n := 8) (b := b) (p := 0) (m := m) (z := z) (by omega) hl (by omega)
  have a2 := a1 (by omega)
  obtain ⟨u1, p6, m6, h6⟩ := src_spoil (R := R) N (s := t1) (b := b) (m := m5) (z := z) (by omega) hl hp5
  obtain ⟨u2, p7, m7, h7⟩ := src_spoil (R := R) N (s := t2) (b := b) (m := m5) (z := z) (by omega) hl hp5
  have hd : ∀ k : ByteArray → Bool → Int → Int → ByteArray → ByteArray → List Int → Option R, g_spec_DrawUnseal_r N b l k = _ := fun k => by
    unfold g_spec_DrawUnseal_r
    rw [h0, h1, spec_Seal_eq N hN, h2, h5]
  have hv : v5 = 0 ∨ v5 = 1 ∨ v5 = 2 ∨ v5 = 3 ∨ v5 = 4 ∨ 4 < v5 := by omega
  rcases hv with rfl | rfl | rfl | rfl | rfl | hv
  · exact ⟨s ++ ⟨[(120 : UInt8)].toArray⟩, b1, a, c, t1, t2, L, fun k => by
      rw [hd, beq_self_eq_true, cond_true, ble_t (by omega), cond_true]⟩
  · by_cases h : (L.length : Int) > 0
    · obtain ⟨x, hx⟩ := nth_some (l := L) (n := 0) (by omega)
      refine ⟨s, cond (Nat.beq L.length 0) false false, a, c, t1, t2, nset L 0 (Int.tmod (IntKind.wrap .i64 (x + 1)) 7), fun k => ?_⟩
      rw [hd]
      change cond (decide ((L.length : Int) > 0)) _ _ = _
      rw [decide_eq_true h, cond_true]
      unfold g_spec_l01Ints_w
      rw [room (by omega) (by omega), cond_true, List.nil_append]
      dsimp only
      rw [decide_eq_true (show (0 : Int) < (L.length : Int) by omega), cond_true, elemK_some hx, cond_true, elemK_some hx, blt_t (show 0 < L.length by omega), cond_true]
    · exact ⟨s, b1, a, c, t1, t2, L, fun k => by
        rw [hd]
        change cond (decide ((L.length : Int) > 0)) _ _ = _
        rw [decide_eq_false h, cond_false]⟩
  · exact ⟨s, b1, a, c, u1, t2, L, fun k => by
      rw [hd, show ((2 : Int) == 0) = false from rfl, cond_false, show ((2 : Int) == 1) = false from rfl, cond_false, beq_self_eq_true, cond_true, h6]⟩
  · exact ⟨s, b1, a, c, t1, u2, L, fun k => by
      rw [hd, show ((3 : Int) == 0) = false from rfl, cond_false, show ((3 : Int) == 1) = false from rfl, cond_false, show ((3 : Int) == 2) = false from rfl, cond_false, beq_self_eq_true, cond_true, h7]⟩
  · exact ⟨s, b1, a, IntKind.wrap .i64 (((BitVec.ofInt 64 c ^^^ BitVec.ofInt 64 1).toNat : Nat) : Int), t1, t2, L, fun k => by
      rw [hd, show ((4 : Int) == 0) = false from rfl, cond_false, show ((4 : Int) == 1) = false from rfl, cond_false, show ((4 : Int) == 2) = false from rfl, cond_false, show ((4 : Int) == 3) = false from rfl, cond_false, beq_self_eq_true, cond_true]⟩
  · exact ⟨s, b1, a, c, t1, t2, L, fun k => by
      rw [hd, beq_dec, beq_dec, beq_dec, beq_dec, beq_dec, decide_eq_false (show ¬ v5 = 0 by omega), decide_eq_false (show ¬ v5 = 1 by omega), decide_eq_false (show ¬ v5 = 2 by omega), decide_eq_false (show ¬ v5 = 3 by omega), decide_eq_false (show ¬ v5 = 4 by omega), cond_false, cond_false, cond_false, cond_false, cond_false]⟩

theorem lwAt_ok {b : Bool} {i : Nat} {l : List Int} (hl : l.length ≤ 2 ^ 30) (hb : ∀ x ∈ l, 0 ≤ x ∧ x < 256) : ∃ v : Int, 0 ≤ v ∧ v < 200 ∧ ∀ k : Int → Option R, g_laws_lwAt_r N b (i : Int) 200 l k = k v := by
  by_cases h : (l.length : Int) = 0
  · exact ⟨0, by omega, by omega, fun k => by unfold g_laws_lwAt_r; rw [beq_dec, decide_eq_true h, cond_true]⟩
  · have e : Int.tmod (i : Int) (l.length : Int) = ((i % l.length : Nat) : Int) := by rw [tmod_nn (by omega), Int.natCast_emod]
    have hlt : i % l.length < l.length := Nat.mod_lt _ (by omega)
    obtain ⟨x, hx⟩ := nth_some hlt
    obtain ⟨x0, x1⟩ := hb x (nth_mem hx)
    refine ⟨x % 200, by omega, by omega, fun k => ?_⟩
    unfold g_laws_lwAt_r
    rw [beq_dec, decide_eq_false h, cond_false, cond_false, e, dec_nn, dec_lt hlt, Bool.and_self, cond_true, Int.toNat_natCast, elemK_some hx, w64 (by omega) (by omega), tmod_nn x0]
    rfl

theorem seal_go {b3 : Bool} {s7 : ByteArray} {n6 : Int} {s8 : ByteArray} {b4 : Bool} {l3 l4 : List Int} {n8 n9 : Int} {s9 s10 : ByteArray} {n10 : Int} {s11 : ByteArray} (hl : l4.length ≤ 2 ^ 30) (hb : ∀ x ∈ l4, 0 ≤ x ∧ x < 256) :
    ∀ (d f i : Nat) (L : List Int), i + d = L.length → d < f → L.length ≤ 8 → (∀ j x, nth L j = some x → isW x = true) →
    ∃ L' : List Int, L'.length = L.length ∧ (∀ j x, nth L' j = some x → isW x = true) ∧ (∀ j x, nth L j = some x → bitI n6 j = true → nth L' j = some x) ∧
      ∀ kN : List Int → Option R, l_laws_FnSealed_rr_0 N b3 s7 n6 s8 b4 l3 l4 n8 n9 s9 s10 n10 s11 kN f (i : Int) L = kN L' := by
  intro d
  induction d with
  | zero =>
    intro f i L hi hf hL hw
    obtain ⟨f, rfl⟩ : ∃ j, f = j + 1 := ⟨f - 1, by omega⟩
    refine ⟨L, rfl, hw, fun j x hx _ => hx, fun kN => ?_⟩
    rw [l_laws_FnSealed_rr_0, s_laws_FnSealed_rr_0, decide_eq_false (show ¬ (i : Int) < (L.length : Int) by omega), cond_false]
  | succ d ih =>
    intro f i L hi hf hL hw
    obtain ⟨f, rfl⟩ : ∃ j, f = j + 1 := ⟨f - 1, by omega⟩
    have hlt : i < L.length := by omega
    have eu : IntKind.wrap .u64 (i : Int) = (i : Int) := wu64 (by omega) (by omega)
    have hst : ∀ kN : List Int → Option R, l_laws_FnSealed_rr_0 N b3 s7 n6 s8 b4 l3 l4 n8 n9 s9 s10 n10 s11 kN (f + 1) (i : Int) L = cond (IntKind.wrap .i64 (((BitVec.ofInt 64 (Int.fdiv n6 (2 ^ (Min.min i 64))) &&& BitVec.ofInt 64 1).toNat : Nat) : Int) == 0) (g_laws_lwAt_r N b3 (i : Int) 200 l4 fun n11 => l_laws_FnSealed_rr_0 N b3 s7 n6 s8 b4 l3 l4 n8 n9 s9 s10 n10 s11 kN f ((i + 1 : Nat) : Int) (nset L i n11)) (l_laws_FnSealed_rr_0 N b3 s7 n6 s8 b4 l3 l4 n8 n9 s9 s10 n10 s11 kN f ((i + 1 : Nat) : Int) L) := fun kN => by
      obtain ⟨x, hx⟩ := nth_some hlt
      rw [l_laws_FnSealed_rr_0, s_laws_FnSealed_rr_0, dec_lt hlt, cond_true, eu, decide_eq_false (show ¬ (i : Int) < 0 by omega), cond_false, Int.toNat_natCast, wrap_next hlt (by omega), dec_nn, Bool.and_self]
      simp -implicitDefEqProofs only [cond_true, elemK_some hx, blt_t hlt]
    cases hX : (IntKind.wrap .i64 (((BitVec.ofInt 64 (Int.fdiv n6 (2 ^ (Min.min i 64))) &&& BitVec.ofInt 64 1).toNat : Nat) : Int) == 0) with
    | true =>
      have hbit : bitI n6 i = false := by
        unfold bitI
        rw [eq_of_beq hX]
        rfl
      obtain ⟨v, v0, v1, hv⟩ := lwAt_ok (R := R) N (b := b3) (i := i) hl hb
      have hn : (nset L i v).length = L.length := nset_length L i v
      obtain ⟨L', f1, f2, f3, f4⟩ := ih f (i + 1) (nset L i v) (by omega) (by omega) (by omega) (fun j x hx => by
        rw [nth_nset] at hx
        by_cases hj : j = i ∧ i < L.length
        · rw [if_pos hj] at hx
          cases hx
          unfold isW
          rw [decide_eq_true (show v ≥ 0 from v0), decide_eq_true (show v < 4294967296 by omega)]
          rfl
        · rw [if_neg hj] at hx
          exact hw j x hx)
      refine ⟨L', by omega, f2, fun j x hx hbj => f3 j x ?_ hbj, fun kN => by rw [hst, hX, cond_true, hv, f4]⟩
      rw [nth_nset, if_neg]
      · exact hx
      · intro e
        rw [e.1, hbit] at hbj
        cases hbj
    | false =>
      obtain ⟨L', f1, f2, f3, f4⟩ := ih f (i + 1) L (by omega) (by omega) hL hw
      exact ⟨L', f1, f2, f3, fun kN => by rw [hst, hX, cond_false, f4]⟩

theorem regsOk_nth {l : List Int} : regsOk l = true ↔ (1 ≤ l.length ∧ l.length ≤ 8) ∧ ∀ j x, nth l j = some x → isW x = true := by
  unfold regsOk
  simp only [Bool.and_eq_true, decide_eq_true_eq, Bool.not_eq_true', List.any_eq_false, Bool.not_eq_true, Bool.not_eq_false']
  refine ⟨fun ⟨h, h1⟩ => ⟨h, fun j x hx => ?_⟩, fun ⟨h, h1⟩ => ⟨h, fun x hx => ?_⟩⟩
  · simpa using h1 x (nth_mem hx)
  · obtain ⟨j, hj⟩ := List.getElem?_of_mem hx
    rw [← nth_eq] at hj
    simpa using h1 j x hj

theorem law_Sealed {b b1 : Bool} {l l1 : List Int} (hb1 : ∀ x ∈ l1, 0 ≤ x ∧ x < 256) (hN : 2 ^ 40 < N) (k : Bool → Option R) : g_laws_FnSealed_rr N b b1 l l1 k = k true := by
  unfold g_laws_FnSealed_rr
  by_cases h : (l.length : Int) > 1048576
  · rw [decide_eq_true h]; rfl
  by_cases h1 : (l1.length : Int) > 1048576
  · rw [decide_eq_true h1]; cases decide ((l.length : Int) > 1048576) <;> rfl
  have hl : l.length ≤ 2 ^ 30 := by omega
  have hl1 : l1.length ≤ 2 ^ 30 := by omega
  obtain ⟨s, b2, n, s1, L, _, _, hL, hd⟩ := DrawSeal_ok (R := R) N (b := b) hl hN
  obtain ⟨s18, b6, n17, n18, s19, s20, l8, hd2⟩ := DrawUnseal_ok (R := R) N (b := b1) hl1 hN
  obtain ⟨c9, t9, h9⟩ := unsealF_res (R := R) s18 n17 n18 s19 s20 l8
  rw [decide_eq_false h, decide_eq_false h1, cond_false, oK_some_eq, cond_false, hd, impl_Seal_eq N hN]
  unfold sealF
  cases hb : sealBad s s1 L with
  | true =>
    rw [cond_true]
    refine (spec_Seal_eq N hN _).trans ?_
    unfold sealF
    rw [hb, cond_true]
    dsimp only
    simp -implicitDefEqProofs only [beq_self_eq_true, eq_self, decide_true, Bool.and_self, Bool.not_true, cond_false, show ((2 : Int) == 0) = false from rfl]
    rw [hd2, impl_Unseal_eq N hN, h9, spec_Unseal_eq N hN, h9, beq_self_eq_true, decide_eq_true rfl]
    rfl
  | false =>
    cases ho : sealOk n L with
    | false =>
      rw [cond_false, Bool.not_false, cond_true]
      refine (spec_Seal_eq N hN _).trans ?_
      unfold sealF
      rw [hb, cond_false, ho, Bool.not_false, cond_true]
      dsimp only
      simp -implicitDefEqProofs only [beq_self_eq_true, eq_self, decide_true, Bool.and_self, Bool.not_true, cond_false, show ((1 : Int) == 0) = false from rfl]
      rw [hd2, impl_Unseal_eq N hN, h9, spec_Unseal_eq N hN, h9, beq_self_eq_true, decide_eq_true rfl]
      rfl
    | true =>
      rw [cond_false, Bool.not_true, cond_false]
      refine (spec_Seal_eq N hN _).trans ?_
      unfold sealF
      have ho1 := ho
      unfold sealOk at ho1
      simp only [Bool.and_eq_true] at ho1
      obtain ⟨hr, hn0, hn1⟩ := ho1
      obtain ⟨hlen, hwd⟩ := regsOk_nth.1 hr
      obtain ⟨L', f1, f2, f3, f4⟩ := seal_go (R := R) N (b3 := b1) (s7 := s) (n6 := n) (s8 := s1) (b4 := cond (Nat.beq (List.length L) 0) Bool.false Bool.false) (l3 := l) (n8 := 0) (n9 := n) (s9 := crypt (sealKey s n L) 1 s1) (s10 := tagOf (sealKey s n L) (crypt (sealKey s n L) 1 s1)) (n10 := 0) (s11 := s1) hl1 hb1 L.length N 0 L (by omega) (by omega) (by omega) hwd
      have ho' : sealOk n L' = true := by
        unfold sealOk
        rw [regsOk_nth.2 ⟨by omega, f2⟩, f1, hn0, hn1]
        rfl
      rw [hb, cond_false, ho, Bool.not_true, cond_false]
      dsimp only
      simp -implicitDefEqProofs only [beq_self_eq_true, eq_self, decide_true, Bool.and_self, Bool.not_true, cond_false, cond_true]
      rw [impl_Unseal_eq N hN, seal_unseal hb ho rfl ho (fun _ _ h _ => h), bne_self_eq_false, cond_false, decide_eq_true rfl, Bool.not_true, oK_some_eq, cond_false, room (by omega) (by omega), cond_true, List.nil_append]
      unfold c_laws_FnSealed_rr_0
      refine (f4 _).trans ?_
      rw [impl_Unseal_eq N hN, seal_unseal hb ho f1.symm ho' f3, bne_self_eq_false, cond_false, decide_eq_true rfl, Bool.not_true, oK_some_eq, cond_false, hd2, impl_Unseal_eq N hN, h9, spec_Unseal_eq N hN, h9, beq_self_eq_true, decide_eq_true rfl]
      rfl


theorem u8_of_wf {x : Int} (h : svWf (.int .u8 x)) : 0 ≤ x ∧ x < 256 := by
  have h' : (decide (IntKind.u8.min ≤ x) && decide (x ≤ IntKind.u8.max)) = true := h
  simp only [Bool.and_eq_true, decide_eq_true_eq] at h'
  have e1 : IntKind.u8.min = 0 := by decide
  have e2 : IntKind.u8.max = 255 := by decide
  omega

theorem law_SealedW {b b1 : Bool} {l l1 : List Int} (hr : ∀ x ∈ l1, ∀ v ∈ ru8.cells x, svWf v) (hN : 2 ^ 40 < N) (k : Bool → Option R) : g_laws_FnSealed_rr N b b1 l l1 k = k true :=
  law_Sealed N (fun x hx => u8_of_wf (hr x hx (.int .u8 x) (List.mem_singleton.2 rfl))) hN k

end
end Go.Sa
