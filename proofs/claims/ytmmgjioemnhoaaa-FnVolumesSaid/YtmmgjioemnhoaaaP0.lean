import Derived.Test.YtmmgjioemnhoaaaW7
set_option linter.all false
namespace Go.Sa
open Go Go.Eng
section
variable {R : Type} (N : Nat)
variable {R : Type}

@[simp] theorem impl_yin_eq (a lo hi : Int) (k : Bool → Option R) : g_impl_yin N a lo hi k = k (decide (a ≥ lo) && decide (a ≤ hi)) := by
  simp [g_impl_yin]

@[simp] theorem impl_yisWord_eq (a : Int) (k : Bool → Option R) : g_impl_yisWord N a k = k (decide (a ≥ 0) && decide (a < 4294967296)) := by
  simp [g_impl_yisWord]

@[simp] theorem spec_l01IsWord_eq (a : Int) (k : Bool → Option R) : g_spec_l01IsWord N a k = k (decide (a ≥ 0) && decide (a < 4294967296)) := by
  simp [g_spec_l01IsWord]

def word (n : Int) : Int := n % 4294967296

def putWord (n : Int) : ByteArray := toBytes [word n % 256, word n / 256 % 256, word n / 65536 % 256, word n / 16777216 % 256]

theorem putWord_size (n : Int) : (putWord n).size = 4 := toBytes_size _

theorem impl_PutWord_eq (n : Int) (k : ByteArray → Option R) : g_impl_PutWord N n k = k (putWord n) := by
  simp only [g_impl_PutWord, Go.Eng.wu8, wu32, fdiv_lit _ (show (0 : Int) ≤ 256 by omega), fdiv_lit _ (show (0 : Int) ≤ 65536 by omega), fdiv_lit _ (show (0 : Int) ≤ 16777216 by omega), seg_all]
  rfl

theorem spec_l01Mod_eq {n m : Int} (hm : 0 < m) (hm2 : m ≤ 2 ^ 62) (k : Int → Option R) : g_spec_l01Mod N n m k = k (n % m) := by
  unfold g_spec_l01Mod
  obtain ⟨h1, h2⟩ := tmod_bound (n := n) hm
  rw [show (m == 0) = false by rw [beq_dec]; exact decide_eq_false (by omega), ← tmod_add (n := n) hm]
  by_cases h : n.tmod m < 0
  · rw [decide_eq_true h, if_pos h, w64 (by omega) (by omega)]; rfl
  · rw [decide_eq_false h, if_neg h]; rfl

theorem impl_ymod_eq {n m : Int} (hm : 0 < m) (hm2 : m ≤ 2 ^ 62) (k : Int → Option R) : g_impl_ymod N n m k = k (n % m) := by
  unfold g_impl_ymod
  obtain ⟨h1, h2⟩ := tmod_bound (n := n) hm
  rw [show (m == 0) = false by rw [beq_dec]; exact decide_eq_false (by omega), ← tmod_add (n := n) hm]
  by_cases h : n.tmod m < 0
  · rw [decide_eq_true h, if_pos h, w64 (by omega) (by omega)]; rfl
  · rw [decide_eq_false h, if_neg h]; rfl

theorem spec_Word_eq (n : Int) (k : Int → Option R) : g_spec_Word N n k = k (word n) := by
  unfold g_spec_Word
  rw [spec_l01Mod_eq N (by omega) (by omega)]
  rfl

theorem spec_PutWord_eq (n : Int) (k : ByteArray → Option R) : g_spec_PutWord N n k = k (putWord n) := by
  simp only [g_spec_PutWord, spec_Word_eq, Go.Eng.wu8, fdiv_lit _ (show (0 : Int) ≤ 256 by omega), fdiv_lit _ (show (0 : Int) ≤ 65536 by omega), fdiv_lit _ (show (0 : Int) ≤ 16777216 by omega), seg_all]
  rfl


/-- Texts, one behind the other. -/
def catB : List ByteArray → ByteArray
  | [] => ⟨[].toArray⟩
  | x :: l => x ++ catB l

theorem ba_append_empty (x : ByteArray) : x ++ (⟨[].toArray⟩ : ByteArray) = x := by
  apply ByteArray.ext
  simp

theorem join_flatten : ∀ xs : List (List UInt8), Lib.join xs [] = xs.flatten
  | [] => rfl
  | x :: r => by
    rw [Lib.join_cons, List.flatten_cons]
    unfold Lib.joinTail
    simp

theorem catB_toList : ∀ l : List ByteArray, (catB l).data.toList = (l.map (·.data.toList)).flatten
  | [] => rfl
  | x :: l => by
    simp only [catB, List.map_cons, List.flatten_cons, ← catB_toList l]
    simp

theorem joinB_cat (l : List ByteArray) : joinB l ⟨[].toArray⟩ = catB l := by
  unfold joinB
  apply ByteArray.ext
  apply Array.ext'
  show Lib.join (l.map (·.data.toList)) [] = _
  rw [join_flatten, catB_toList]

theorem joinOk_cat {l : List ByteArray} (h1 : l.length ≤ 2 ^ 40) (h2 : (catB l).size ≤ 2 ^ 40) : joinOk l ⟨[].toArray⟩ = true := by
  unfold joinOk
  have h3 : (Lib.join (l.map (·.data.toList)) (⟨[].toArray⟩ : ByteArray).data.toList).length = (catB l).size := by
    show (Lib.join (l.map (·.data.toList)) []).length = _
    rw [join_flatten, ← catB_toList]
    rfl
  rw [h3, ble_t (by omega), ble_t (by omega)]
  rfl

theorem catB_size : ∀ l : List ByteArray, (catB l).size = (l.map (·.size)).sum
  | [] => rfl
  | x :: l => by
    simp only [catB, ByteArray.size_append, List.map_cons, List.sum_cons, catB_size l]

theorem tdiv_nn {n m : Int} (h : 0 ≤ n) : n.tdiv m = n / m := Int.tdiv_eq_ediv_of_nonneg h

theorem tmod_nn {n m : Int} (h : 0 ≤ n) : n.tmod m = n % m := Int.tmod_eq_emod_of_nonneg h

def mixStep (x b : Int) : Int := (x * 65599 + b + 1) % 2147483629

def mixGo (s : ByteArray) (x : Int) : Int := (List.range s.size).foldl (fun x i => mixStep x (bt s i)) x

def mix (s : ByteArray) (n : Int) : Int := (mixGo s (n % 2147483629 + 1) * 40503 + 77) % 2147483629

theorem mix_round {x b : Int} (hx0 : 0 ≤ x) (hx1 : x ≤ 2147483629) (hb0 : 0 ≤ b) (hb1 : b ≤ 255) :
    Int.tmod (IntKind.wrap .i64 (IntKind.wrap .i64 (IntKind.wrap .i64 (x * 65599) + IntKind.wrap .i64 b) + 1)) 2147483629 = mixStep x b := by
  rw [w64 (n := x * 65599) (by omega) (by omega), w64 (n := b) (by omega) (by omega), w64 (n := x * 65599 + b) (by omega) (by omega), w64 (by omega) (by omega), tmod_nn (by omega)]
  rfl

theorem impl_ymix_eq {s : ByteArray} {n : Int} (hs : s.size ≤ 2 ^ 40) (hN : 2 ^ 40 < N) (k : Int → Option R) : g_impl_ymix N s n k = k (mix s n) := by
  unfold g_impl_ymix
  rw [impl_ymod_eq N (by omega) (by omega)]
  have hm : 0 ≤ n % 2147483629 ∧ n % 2147483629 < 2147483629 := by omega
  rw [w64 (n := n % 2147483629 + 1) (by omega) (by omega)]
  unfold c_impl_ymix_0
  obtain ⟨h1, h2, h3⟩ := fold (fun f i x => l_impl_ymix_0 N s s.size (fun n5 => k (Int.tmod (IntKind.wrap .i64 (IntKind.wrap .i64 (n5 * 40503) + 77)) 2147483629)) f x i) s.size (fun i x => mixStep x (bt s i)) (fun _ x => 0 ≤ x ∧ x ≤ 2147483629) (fun n5 => k (Int.tmod (IntKind.wrap .i64 (IntKind.wrap .i64 (n5 * 40503) + 77)) 2147483629)) (fun f i x hi hx => by
      obtain ⟨b1, b2⟩ := bt_bound s i
      simp only [l_impl_ymix_0, s_impl_ymix_0, dec_lt hi, dec_nn, Int.toNat_natCast, wrap_next hi (by omega), Bool.and_true, cond_true, mix_round hx.1 hx.2 b1 b2]
      exact ⟨trivial, by unfold mixStep; omega⟩) (fun f x hx => by
      simp only [l_impl_ymix_0, s_impl_ymix_0, dec_nlt, cond_false]) (s := n % 2147483629 + 1) ⟨by omega, by omega⟩ (f := N) (by omega)
  refine h1.trans ?_
  rw [w64 (n := _ * 40503) (by omega) (by omega), w64 (by omega) (by omega), tmod_nn (by omega)]
  rfl

theorem spec_Mix_eq {s : ByteArray} {n : Int} (hN : 2 ^ 40 < N) (k : Int → Option R) : g_spec_Mix N s n k = k (cond (decide ((s.size : Int) > 65536)) 0 (mix s n)) := by
  unfold g_spec_Mix
  by_cases hs : (s.size : Int) > 65536
  · rw [decide_eq_true hs]; rfl
  rw [decide_eq_false hs, cond_false, cond_false, spec_l01Mod_eq N (by omega) (by omega)]
  have hm : 0 ≤ n % 2147483629 ∧ n % 2147483629 < 2147483629 := by omega
  rw [w64 (n := n % 2147483629 + 1) (by omega) (by omega)]
  unfold c_spec_Mix_0
  obtain ⟨h1, h2, h3⟩ := fold (fun f i x => l_spec_Mix_0 N s (fun n5 => k (Int.tmod (IntKind.wrap .i64 (IntKind.wrap .i64 (n5 * 40503) + 77)) 2147483629)) f x i) s.size (fun i x => mixStep x (bt s i)) (fun _ x => 0 ≤ x ∧ x ≤ 2147483629) (fun n5 => k (Int.tmod (IntKind.wrap .i64 (IntKind.wrap .i64 (n5 * 40503) + 77)) 2147483629)) (fun f i x hi hx => by
      obtain ⟨b1, b2⟩ := bt_bound s i
      simp only [l_spec_Mix_0, s_spec_Mix_0, dec_lt hi, dec_nn, Int.toNat_natCast, wrap_next hi (by omega), Bool.and_true, cond_true, mix_round hx.1 hx.2 b1 b2]
      exact ⟨trivial, by unfold mixStep; omega⟩) (fun f x hx => by
      simp only [l_spec_Mix_0, s_spec_Mix_0, dec_nlt, cond_false]) (s := n % 2147483629 + 1) ⟨by omega, by omega⟩ (f := N) (by omega)
  refine h1.trans ?_
  rw [w64 (n := _ * 40503) (by omega) (by omega), w64 (by omega) (by omega), tmod_nn (by omega)]
  rfl

theorem ofBytes_length (s : ByteArray) : (ofBytes s).length = s.size := by
  unfold ofBytes
  rw [List.length_map, Array.length_toList]
  rfl

theorem nth_ofBytes {s : ByteArray} {i : Nat} (h : i < s.size) : nth (ofBytes s) i = some (bt s i) := by
  have h' : i < s.data.toList.length := by rw [Array.length_toList]; exact h
  unfold ofBytes bt
  rw [nth_eq, List.getElem?_map, List.getElem?_eq_getElem h', List.getD_eq_getElem?_getD, List.getElem?_eq_getElem h']
  rfl

theorem toBytes_ofBytes (s : ByteArray) : toBytes (ofBytes s) = s := by
  obtain ⟨⟨l⟩⟩ := s
  unfold toBytes ofBytes
  simp only [List.map_map]
  have : (l.map ((fun x : Int => UInt8.ofNat x.toNat) ∘ fun c : UInt8 => (c.toNat : Int))) = l := by
    rw [List.map_congr_left (g := id) (fun c _ => by simp), List.map_id]
  rw [this]

theorem ofBytes_toBytes {l : List Int} (h : ∀ x ∈ l, 0 ≤ x ∧ x < 256) : ofBytes (toBytes l) = l := by
  unfold ofBytes toBytes
  simp only [List.map_map]
  rw [List.map_congr_left (g := id) (fun x hx => ?_), List.map_id]
  have := h x hx
  simp
  omega

theorem impl_yjoinw_eq {l : List ByteArray} {b : Bool} (h1 : l.length ≤ 2 ^ 40) (h2 : (catB l).size ≤ 2 ^ 40) (k : ByteArray → Option R) : g_impl_yjoin_w N b l k = k (catB l) := by
  unfold g_impl_yjoin_w
  rw [joinOk_cat h1 h2, cond_true, joinB_cat]

def isW (x : Int) : Bool := decide (x ≥ 0) && decide (x < 4294967296)

theorem longKey_eq {s : ByteArray} (hN : 2 ^ 40 < N) (k : Bool → Option R) : g_impl_ylongKey_w N false [s] k = k (decide ((s.size : Int) > 4096)) := by
  unfold g_impl_ylongKey_w g_slices_ContainsFunc_string_Fimpl_ylongKey_1_w g_slices_IndexFunc_string_Fimpl_ylongKey_1_w c_slices_IndexFunc_string_Fimpl_ylongKey_1_w_0
  have := srchI (l_slices_IndexFunc_string_Fimpl_ylongKey_1_w_0 N false ([s].length : Nat) [s] (fun n => k (decide (n ≥ 0))) (k (decide ((-1 : Int) ≥ 0)))) 1 (fun i => atD [s] i (fun x => decide ((x.size : Int) > 4096)) true) (fun n => k (decide (n ≥ 0))) (k (decide ((-1 : Int) ≥ 0))) (fun f i hi => by
    obtain ⟨x, hx⟩ := nth_some (l := [s]) (n := i) hi
    have hi' : i < [s].length := hi
    simp only [l_slices_IndexFunc_string_Fimpl_ylongKey_1_w_0, s_slices_IndexFunc_string_Fimpl_ylongKey_1_w_0, dec_lt hi', dec_nn, Int.toNat_natCast, elemK_some hx, wrap_next hi (by omega), Bool.and_true, cond_true, atD_some hx, g_impl_ylongKey_1]) (fun f => by
    have : decide (((1 : Nat) : Int) < (([s].length : Nat) : Int)) = false := by simp
    simp only [l_slices_IndexFunc_string_Fimpl_ylongKey_1_w_0, s_slices_IndexFunc_string_Fimpl_ylongKey_1_w_0, this, cond_false]) (f := N) (by omega)
  refine this.trans ?_
  have e : (List.range 1).find? (fun i => atD [s] i (fun x => decide ((x.size : Int) > 4096)) true) = cond (decide ((s.size : Int) > 4096)) (some 0) none := by
    have e1 : atD [s] 0 (fun x => decide ((x.size : Int) > 4096)) true = decide ((s.size : Int) > 4096) := rfl
    rw [show List.range 1 = [0] from rfl, List.find?_cons, e1]
    cases decide ((s.size : Int) > 4096) <;> rfl
  rw [e]
  cases decide ((s.size : Int) > 4096) <;> rfl

theorem ybig_eq {t : ByteArray} (hN : 2 ^ 40 < N) (k : Bool → Option R) : g_impl_ybig_w N false [t] k = k (decide ((t.size : Int) > 65536)) := by
  obtain ⟨M, rfl⟩ : ∃ M, N = M + 2 := ⟨N - 2, by omega⟩
  unfold g_impl_ybig_w c_impl_ybig_w_0
  have hx : nth [t] 0 = some t := rfl
  show cond (decide ((t.size : Int) > 65536)) (k true) (k false) = _
  cases decide ((t.size : Int) > 65536) <;> rfl

theorem src_n_shape (n : Int) (b : Bool) (p m z : Int) (l : List Int) : ∃ M : Int, ∀ k : Int → Int → Int → Option R, g_spec_l01Src_n_Wr N n b p m z l k = cond (decide (n ≤ 1)) (k 0 p m)
    (cond (decide (p < (l.length : Int))) (cond (decide (0 ≤ p) && decide (p < (l.length : Int))) (elemK l p.toNat fun x => cond (IntKind.wrap .u64 n == 0) none (k (IntKind.wrap .i64 (Int.tmod (IntKind.wrap .u64 (IntKind.wrap .u64 x + Int.fdiv M 1048576)) (IntKind.wrap .u64 n))) (IntKind.wrap .i64 (p + 1)) M)) none)
      (cond (IntKind.wrap .u64 n == 0) none (k (IntKind.wrap .i64 (Int.tmod (IntKind.wrap .u64 (0 + Int.fdiv M 1048576)) (IntKind.wrap .u64 n))) p M))) := ⟨_, fun _ => rfl⟩

theorem wu64_nn (n : Int) : 0 ≤ IntKind.wrap .u64 n := by
  unfold IntKind.wrap
  have hb : (2 : Int) ^ IntKind.u64.bits = 18446744073709551616 := by decide
  have hs : IntKind.u64.signed = false := rfl
  rw [hb, hs]
  simp only [Bool.false_and]
  rw [if_neg (by decide)]
  omega

/-- A drawn number. -/
theorem src_n {n : Int} {b : Bool} {p m z : Int} {l : List Int} (hn : n ≤ 2 ^ 62) (hl : l.length ≤ 2 ^ 30) (hp : 0 ≤ p ∧ p ≤ 2 ^ 40) :
    ∃ v p' m' : Int, 0 ≤ v ∧ (1 < n → v < n) ∧ (n ≤ 1 → v = 0) ∧ (0 ≤ p' ∧ p' ≤ 2 ^ 40) ∧ ∀ k : Int → Int → Int → Option R, g_spec_l01Src_n_Wr N n b p m z l k = k v p' m' := by
  obtain ⟨M, hM⟩ := src_n_shape (R := R) N n b p m z l
  by_cases h1 : n ≤ 1
  · exact ⟨0, p, m, Int.le_refl 0, fun h => by omega, fun _ => rfl, hp, fun k => by rw [hM, decide_eq_true h1, cond_true]⟩
  have hw : IntKind.wrap .u64 n = n := wu64 (by omega) (by omega)
  have h0 : (IntKind.wrap .u64 n == 0) = false := by rw [hw, beq_dec]; exact decide_eq_false (by omega)
  have key : ∀ X : Int, IntKind.wrap .i64 (Int.tmod (IntKind.wrap .u64 X) (IntKind.wrap .u64 n)) = IntKind.wrap .u64 X % n := by
    intro X
    have := wu64_nn X
    have h2 := Int.emod_nonneg (IntKind.wrap .u64 X) (show n ≠ 0 by omega)
    have h3 := Int.emod_lt_of_pos (IntKind.wrap .u64 X) (show 0 < n by omega)
    rw [hw, tmod_nn this, w64 (by omega) (by omega)]
  have bnd : ∀ X : Int, 0 ≤ IntKind.wrap .u64 X % n ∧ IntKind.wrap .u64 X % n < n := fun X => ⟨Int.emod_nonneg _ (by omega), Int.emod_lt_of_pos _ (by omega)⟩
  by_cases h2 : p < (l.length : Int)
  · obtain ⟨i, rfl⟩ := Int.eq_ofNat_of_zero_le hp.1
    obtain ⟨x, hx⟩ := nth_some (l := l) (n := i) (by omega)
    obtain ⟨b1, b2⟩ := bnd (IntKind.wrap .u64 x + Int.fdiv M 1048576)
    refine ⟨_, ((i + 1 : Nat) : Int), M, b1, fun _ => b2, fun h => by omega, by omega, fun k => ?_⟩
    rw [hM, decide_eq_false h1, cond_false, decide_eq_true h2, cond_true, dec_nn, Bool.and_self, cond_true, Int.toNat_natCast, elemK_some hx, h0, cond_false, key, w64 (n := (i : Int) + 1) (by omega) (by omega)]
    rfl
  · obtain ⟨b1, b2⟩ := bnd (0 + Int.fdiv M 1048576)
    exact ⟨_, p, M, b1, fun _ => b2, fun h => by omega, hp, fun k => by rw [hM, decide_eq_false h1, cond_false, decide_eq_false h2, cond_false, h0, cond_false, key]⟩

theorem src_one {n : Int} {b : Bool} {p m z : Int} {l : List Int} (hn : n ≤ 2 ^ 62) (hl : l.length ≤ 2 ^ 30) (hp : 0 ≤ p ∧ p ≤ 2 ^ 40) :
    ∃ (v : Bool) (p' m' : Int), (0 ≤ p' ∧ p' ≤ 2 ^ 40) ∧ ∀ k : Bool → Int → Int → Option R, g_spec_l01Src_one_Wr N n b p m z l k = k v p' m' := by
  obtain ⟨v, p', m', _, _, _, h, hk⟩ := src_n (R := R) N (b := b) (m := m) (z := z) hn hl hp
  exact ⟨_, p', m', h, fun k => by unfold g_spec_l01Src_one_Wr; rw [hk]⟩

/-- One of so many that are listed. -/
theorem pick_lit {T : Type} {L : List T} {v : Int} (h0 : 0 ≤ v) (h1 : v < (L.length : Int)) : ∃ x, x ∈ L ∧ ∀ K : T → Option R, elemK L v.toNat K = K x := by
  obtain ⟨i, rfl⟩ := Int.eq_ofNat_of_zero_le h0
  obtain ⟨x, hx⟩ := nth_some (l := L) (n := i) (by omega)
  exact ⟨x, nth_mem hx, fun K => by rw [Int.toNat_natCast, elemK_some hx]⟩

theorem in_rng {v n : Int} (h0 : 0 ≤ v) (h1 : v < n) : (decide (0 ≤ v) && decide (v < n)) = true := by rw [decide_eq_true h0, decide_eq_true h1]; rfl

theorem src_go {b1 b2 : Bool} {n1 n3 : Int} {l : List Int} (hl : l.length ≤ 2 ^ 30) : ∀ (d f i : Nat) (m : Int), i + d = l.length → d < f → ∃ m' : Int, ∀ kN : Int → Option R, l_spec_l01Source_r_0 N b1 l b2 n1 n3 kN f (i : Int) m = kN m' := by
  intro d
  induction d with
  | zero =>
    intro f i m hi hf
    obtain ⟨f, rfl⟩ : ∃ j, f = j + 1 := ⟨f - 1, by omega⟩
    refine ⟨m, fun kN => ?_⟩
    rw [l_spec_l01Source_r_0, s_spec_l01Source_r_0, decide_eq_false (show ¬ (i : Int) < (l.length : Int) by omega)]
    rfl
  | succ d ih =>
    intro f i m hi hf
    obtain ⟨f, rfl⟩ : ∃ j, f = j + 1 := ⟨f - 1, by omega⟩
    by_cases h : (i : Int) < 64
    · obtain ⟨x, hx⟩ := nth_some (l := l) (n := i) (by omega)
      have hlt : i < l.length := by omega
      obtain ⟨m', hm⟩ := ih f (i + 1) (IntKind.wrap .u64 ((IntKind.wrap .u64 (((BitVec.toNat ((BitVec.ofInt 64 m) ^^^ (BitVec.ofInt 64 (IntKind.wrap .u64 x)))) : Nat) : Int)) * (1099511628211 : Int))) (by omega) (by omega)
      refine ⟨m', fun kN => ?_⟩
      rw [l_spec_l01Source_r_0, s_spec_l01Source_r_0, dec_lt hlt, cond_true, oK_some_eq, decide_eq_true h, cond_true, dec_nn, Bool.and_self, cond_true, Int.toNat_natCast, elemK_some hx, wrap_next hlt (by omega)]
      exact hm kN
    · refine ⟨m, fun kN => ?_⟩
      rw [l_spec_l01Source_r_0, s_spec_l01Source_r_0, decide_eq_true (show (i : Int) < (l.length : Int) by omega), cond_true, oK_some_eq, decide_eq_false h, cond_false]

/-- A source. -/
theorem src_of {b : Bool} {l : List Int} (hl : l.length ≤ 2 ^ 30) (hN : 2 ^ 40 < N) : ∃ m z : Int, 0 ≤ z ∧ z ≤ 12 ∧ ∀ k : Int → Int → Option R, g_spec_l01Source_r N b l k = k m z := by
  obtain ⟨m, hm⟩ := src_go (R := R) N (b1 := b) (b2 := b) (n1 := 0) (n3 := 0) hl l.length N 0 88172645463325252 (by omega) (by omega)
  by_cases h : (l.length : Int) > 12
  · refine ⟨m, 12, by omega, by omega, fun k => ?_⟩
    unfold g_spec_l01Source_r c_spec_l01Source_r_0
    refine (hm _).trans ?_
    rw [decide_eq_true h, cond_true]
  · refine ⟨m, l.length, by omega, by omega, fun k => ?_⟩
    unfold g_spec_l01Source_r c_spec_l01Source_r_0
    refine (hm _).trans ?_
    rw [decide_eq_false h, cond_false]

theorem src_bytes_go {n4 n8 : Int} {b2 : Bool} {l : List Int} (hl : l.length ≤ 2 ^ 30) : ∀ (d f i : Nat) (p m : Int) (b1 : Bool) (L : List Int), (i : Int) + d = n4 → d < f → (0 ≤ p ∧ p ≤ 2 ^ 40) → L.length = i → i + d ≤ 2 ^ 30 →
    ∃ (b' : Bool) (p' m' : Int) (L' : List Int), (0 ≤ p' ∧ p' ≤ 2 ^ 40) ∧ L'.length = i + d ∧ ∀ kN : Bool → Int → Int → List Int → Option R, l_spec_l01Src_bytes_Wr_0 N n4 b2 n8 l kN f b1 (i : Int) p m L = kN b' p' m' L' := by
  intro d
  induction d with
  | zero =>
    intro f i p m b1 L hi hf hp hL hb
    obtain ⟨f, rfl⟩ : ∃ j, f = j + 1 := ⟨f - 1, by omega⟩
    refine ⟨b1, p, m, L, hp, by omega, fun kN => ?_⟩
    rw [l_spec_l01Src_bytes_Wr_0, s_spec_l01Src_bytes_Wr_0, decide_eq_false (show ¬ (i : Int) < n4 by omega), cond_false]
  | succ d ih =>
    intro f i p m b1 L hi hf hp hL hb
    obtain ⟨f, rfl⟩ : ∃ j, f = j + 1 := ⟨f - 1, by omega⟩
    obtain ⟨v, p1, m1, h0, h1, _, hp1, hv⟩ := src_n (R := R) N (n := 256) (b := b2) (m := m) (z := n8) (by omega) hl hp
    obtain ⟨b', p', m', L', hp', hL', hk⟩ := ih f (i + 1) p1 m1 (cond (Nat.beq 1 0) b1 false) (L ++ [IntKind.wrap .u8 v]) (by omega) (by omega) hp1 (by rw [List.length_append, List.length_singleton, hL]) (by omega)
    refine ⟨b', p', m', L', hp', by omega, fun kN => ?_⟩
    rw [l_spec_l01Src_bytes_Wr_0, s_spec_l01Src_bytes_Wr_0, decide_eq_true (show (i : Int) < n4 by omega), cond_true, hv, List.length_singleton, room (show (L.length + 1) * 1 ≤ 2 ^ 47 by omega) (by omega), cond_true, w64 (n := (i : Int) + 1) (by omega) (by omega)]
    exact hk kN

/-- Drawn bytes. -/
theorem src_bytes {n : Nat} {b : Bool} {p m z : Int} {l : List Int} (hn : n ≤ 2 ^ 30) (hl : l.length ≤ 2 ^ 30) (hp : 0 ≤ p ∧ p ≤ 2 ^ 40) (hN : 2 ^ 40 < N) :
    ∃ (s : ByteArray) (p' m' : Int), s.size = n ∧ (0 ≤ p' ∧ p' ≤ 2 ^ 40) ∧ ∀ k : ByteArray → Int → Int → Option R, g_spec_l01Src_bytes_Wr N (n : Int) b p m z l k = k s p' m' := by
  obtain ⟨b', p', m', L', hp', hL', hk⟩ := src_bytes_go (R := R) N (n4 := (n : Int)) (n8 := z) (b2 := b) hl n N 0 p m false [] (by omega) (by omega) hp rfl (by omega)
  refine ⟨toBytes L', p', m', by rw [toBytes_size]; omega, hp', fun k => ?_⟩
  unfold g_spec_l01Src_bytes_Wr c_spec_l01Src_bytes_Wr_0
  refine (hk _).trans ?_
  rw [Nat.zero_add, ble_t (Nat.le_refl _), cond_true, seg_all]

/-- Drawn zeros. -/
theorem src_zeros {n : Nat} {b : Bool} {p m z : Int} {l : List Int} (hn : n ≤ 2 ^ 30) : ∃ s : ByteArray, s.size = n ∧ ∀ k : ByteArray → Option R, g_spec_l01Src_zeros_Wr N (n : Int) b p m z l k = k s := by
  refine ⟨toBytes (List.replicate n 0), by rw [toBytes_size, List.length_replicate], fun k => ?_⟩
  unfold g_spec_l01Src_zeros_Wr
  rw [dec_self, dec_nn, Int.toNat_natCast, room (by omega) (by omega), Bool.and_self, Bool.and_self, cond_true, Nat.zero_add, ble_t (Nat.le_refl _), cond_true, seg_all]


def slotBad (x : KeySlot) : Bool := !isW x.fSalt || ((x.fKey.size : Int) != 16 || (x.fTag.size : Int) != 8)

def volBad (s : ByteArray) (l : List KeySlot) : Bool := !(decide (1 ≤ l.length) && decide (l.length ≤ 4)) || ((s.size : Int) != 8 || l.any slotBad)

theorem spec_VolumeFault_w_eq {s : ByteArray} {l : List KeySlot} {b : Bool} (hN : 2 ^ 40 < N) (k : Int → Option R) : g_spec_VolumeFault_w N b s l k = k (cond (volBad s l) 1 0) := by
  unfold g_spec_VolumeFault_w
  simp only [cond_somes, oK_some_eq, Bool.cond_true_left]
  have h1 : (decide ((l.length : Int) < 1) || (decide ((l.length : Int) > 4) || (s.size : Int) != 8)) = (!(decide (1 ≤ l.length) && decide (l.length ≤ 4)) || (s.size : Int) != 8) := by
    have a1 : decide ((l.length : Int) < 1) = !decide (1 ≤ l.length) := by rw [← decide_not]; exact decide_eq_decide.2 (by omega)
    have a2 : decide ((l.length : Int) > 4) = !decide (l.length ≤ 4) := by rw [Bool.eq_iff_iff]; simp; omega
    rw [a1, a2]
    cases decide (1 ≤ l.length) <;> cases decide (l.length ≤ 4) <;> rfl
  rw [h1]
  unfold volBad
  rw [← Bool.or_assoc]
  cases h : (!(decide (1 ≤ l.length) && decide (l.length ≤ 4)) || (s.size : Int) != 8) with
  | true => rfl
  | false =>
    have hl : l.length ≤ 4 := by
      cases hc : decide (l.length ≤ 4) with
      | true => exact of_decide_eq_true hc
      | false => rw [hc, Bool.and_false] at h; cases h
    rw [cond_false, Bool.false_or]
    unfold c_spec_VolumeFault_w_0
    rw [srch (l_spec_VolumeFault_w_0 N l b s (k 1) (k 0)) l.length (fun i => atD l i slotBad true) (k 1) (k 0) (fun f i hi => ?_) (fun f => ?_) (by omega), any_atD]
    · cases l.any slotBad <;> rfl
    · obtain ⟨x, hx⟩ := nth_some hi
      simp only [l_spec_VolumeFault_w_0, s_spec_VolumeFault_w_0, dec_lt hi, dec_nn, Int.toNat_natCast, elemK_some hx, wrap_next hi (by omega), Bool.and_true, cond_true, atD_some hx, spec_l01IsWord_eq, cond_somes, oK_some_eq, Bool.cond_true_left]
      rfl
    · simp only [l_spec_VolumeFault_w_0, s_spec_VolumeFault_w_0, dec_nlt, cond_false]

theorem indexFunc_slot_eq {l : List KeySlot} {b : Bool} (hl : l.length ≤ 2 ^ 40) (hN : 2 ^ 40 < N) (k : Int → Option R) : g_slices_IndexFunc_KeySlot_Fimpl_VolumeFault_1_r N b l k = k (fstAt l.length (fun i => atD l i slotBad true)) := by
  unfold g_slices_IndexFunc_KeySlot_Fimpl_VolumeFault_1_r c_slices_IndexFunc_KeySlot_Fimpl_VolumeFault_1_r_0
  rw [srchI (l_slices_IndexFunc_KeySlot_Fimpl_VolumeFault_1_r_0 N b l.length l (fun n3 => k n3) (k (-1))) l.length (fun i => atD l i slotBad true) (fun n3 => k n3) (k (-1)) (fun f i hi => ?_) (fun f => ?_) (by omega)]
  · unfold fstAt
    split <;> rfl
  · obtain ⟨x, hx⟩ := nth_some hi
    simp only [l_slices_IndexFunc_KeySlot_Fimpl_VolumeFault_1_r_0, s_slices_IndexFunc_KeySlot_Fimpl_VolumeFault_1_r_0, dec_lt hi, dec_nn, Int.toNat_natCast, elemK_some hx, wrap_next hi (by omega), Bool.and_true, cond_true, atD_some hx, g_impl_VolumeFault_1, impl_yisWord_eq, cond_somes, oK_some_eq, Bool.cond_true_left]
    rfl
  · simp only [l_slices_IndexFunc_KeySlot_Fimpl_VolumeFault_1_r_0, s_slices_IndexFunc_KeySlot_Fimpl_VolumeFault_1_r_0, dec_nlt, cond_false]

theorem impl_VolumeFault_w_eq {s : ByteArray} {l : List KeySlot} {b : Bool} (hN : 2 ^ 40 < N) (k : Int → Option R) : g_impl_VolumeFault_w N b s l k = k (cond (volBad s l) 1 0) := by
  unfold g_impl_VolumeFault_w g_slices_ContainsFunc_KeySlot_Fimpl_VolumeFault_1_r
  have h1 : decide ((l.length : Int) ≥ 1) = decide (1 ≤ l.length) := decide_eq_decide.2 (by omega)
  have h2 : decide ((l.length : Int) ≤ 4) = decide (l.length ≤ 4) := decide_eq_decide.2 (by omega)
  rw [impl_yin_eq, h1, h2]
  unfold volBad
  by_cases hl : l.length ≤ 4
  · rw [indexFunc_slot_eq N (by omega) hN]
    simp only [fstAt_nonneg, any_atD, cond_somes, oK_some_eq, Bool.cond_true_left]
    exact cond_app _ k 1 0
  · rw [decide_eq_false hl, Bool.and_false]; rfl

theorem volBad_len {s : ByteArray} {l : List KeySlot} (h : volBad s l = false) : 1 ≤ l.length ∧ l.length ≤ 4 := by
  unfold volBad at h
  simp at h
  omega

def dropCode (s : ByteArray) (n : Int) (l : List KeySlot) : Int := cond (volBad s l) 1 (cond (!(decide (0 ≤ n) && decide (n < (l.length : Int)))) 5 (cond ((l.length : Int) == 1) 6 0))

def dropL (n : Nat) (l : List KeySlot) : List KeySlot := l.take n ++ l.drop (n + 1)

def slot0 : KeySlot := ⟨0, ⟨[].toArray⟩, ⟨[].toArray⟩⟩

theorem dropCode_zero {s : ByteArray} {n : Int} {l : List KeySlot} (h : dropCode s n l = 0) : volBad s l = false ∧ 0 ≤ n ∧ n < (l.length : Int) ∧ l.length ≠ 1 ∧ l.length ≤ 4 := by
  unfold dropCode at h
  cases hv : volBad s l with
  | true => rw [hv] at h; cases h
  | false =>
    have := volBad_len hv
    rw [hv, cond_false] at h
    by_cases h1 : 0 ≤ n ∧ n < (l.length : Int)
    · rw [decide_eq_true h1.1, decide_eq_true h1.2] at h
      by_cases h2 : l.length = 1
      · rw [h2] at h; cases h
      · exact ⟨rfl, h1.1, h1.2, h2, this.2⟩
    · have h3 : (decide (0 ≤ n) && decide (n < (l.length : Int))) = false := by simp; omega
      rw [h3] at h; cases h

theorem impl_DropPass_eq {s : ByteArray} {n : Int} {l : List KeySlot} {b : Bool} (hb : b = false) (hN : 2 ^ 40 < N) (k : Int → Bool → ByteArray → List KeySlot → Option R) (k1 : Nat → Nat → Bool → List KeySlot → Option R) :
    g_impl_DropPass_w N b s n l k k1 = cond (dropCode s n l != 0) (k (dropCode s n l) true ⟨[].toArray⟩ []) (k1 (l.length - 1) 1 false (dropL n.toNat l ++ [slot0])) := by
  subst hb
  by_cases hz : dropCode s n l = 0
  · obtain ⟨hv, h0, h1, h2, h3⟩ := dropCode_zero hz
    rw [hz]
    unfold g_impl_DropPass_w
    rw [impl_VolumeFault_w_eq N hN, hv]
    obtain ⟨i, rfl⟩ : ∃ i : Nat, n = (i : Int) := ⟨n.toNat, by omega⟩
    have hi : i < l.length := by omega
    match l, i, hi, h2, h3 with
    | [a, c], 0, _, _, _ => rfl
    | [a, c], 1, _, _, _ => rfl
    | [a, c, d], 0, _, _, _ => rfl
    | [a, c, d], 1, _, _, _ => rfl
    | [a, c, d], 2, _, _, _ => rfl
    | [a, c, d, e], 0, _, _, _ => rfl
    | [a, c, d, e], 1, _, _, _ => rfl
    | [a, c, d, e], 2, _, _, _ => rfl
    | [a, c, d, e], 3, _, _, _ => rfl
  · have hb : (dropCode s n l != 0) = true := by simpa using hz
    rw [hb, cond_true]
    unfold g_impl_DropPass_w
    rw [impl_VolumeFault_w_eq N hN]
    unfold dropCode at hz ⊢
    cases hv : volBad s l with
    | true => rfl
    | false =>
      have hlen := volBad_len hv
      rw [hv, cond_false] at hz
      simp only [cond_false, impl_yin_eq]
      have hw : IntKind.wrap .i64 ((l.length : Int) - 1) = (l.length : Int) - 1 := w64 (by omega) (by omega)
      rw [hw]
      by_cases hn : 0 ≤ n ∧ n < (l.length : Int)
      · rw [decide_eq_true hn.1, decide_eq_true hn.2] at hz
        have hl1 : ((l.length : Int) == 1) = true := by
          cases hc : ((l.length : Int) == 1) with
          | true => rfl
          | false => rw [hc] at hz; exact absurd rfl hz
        rw [decide_eq_true hn.1, decide_eq_true hn.2, decide_eq_true (show n ≤ (l.length : Int) - 1 by omega), hl1]; rfl
      · have hf : (decide (0 ≤ n) && decide (n < (l.length : Int))) = false := by simp; omega
        have hf2 : (decide (n ≥ 0) && decide (n ≤ (l.length : Int) - 1)) = false := by simp; omega
        rw [hf, hf2]; rfl

def longB (s : ByteArray) : Bool := decide ((s.size : Int) > 4096)

theorem longKey2_eq {s s1 : ByteArray} (hN : 2 ^ 40 < N) (k : Bool → Option R) : g_impl_ylongKey_w N false [s, s1] k = k (longB s || longB s1) := by
  unfold g_impl_ylongKey_w g_slices_ContainsFunc_string_Fimpl_ylongKey_1_w g_slices_IndexFunc_string_Fimpl_ylongKey_1_w c_slices_IndexFunc_string_Fimpl_ylongKey_1_w_0
  have := srchI (l_slices_IndexFunc_string_Fimpl_ylongKey_1_w_0 N false ([s, s1].length : Nat) [s, s1] (fun n => k (decide (n ≥ 0))) (k (decide ((-1 : Int) ≥ 0)))) 2 (fun i => atD [s, s1] i longB true) (fun n => k (decide (n ≥ 0))) (k (decide ((-1 : Int) ≥ 0))) (fun f i hi => by
    obtain ⟨x, hx⟩ := nth_some (l := [s, s1]) (n := i) hi
    have hi' : i < [s, s1].length := hi
    simp only [l_slices_IndexFunc_string_Fimpl_ylongKey_1_w_0, s_slices_IndexFunc_string_Fimpl_ylongKey_1_w_0, dec_lt hi', dec_nn, Int.toNat_natCast, elemK_some hx, wrap_next hi (by omega), Bool.and_true, cond_true, atD_some hx, g_impl_ylongKey_1, longB]) (fun f => by
    have : decide (((2 : Nat) : Int) < (([s, s1].length : Nat) : Int)) = false := by simp
    simp only [l_slices_IndexFunc_string_Fimpl_ylongKey_1_w_0, s_slices_IndexFunc_string_Fimpl_ylongKey_1_w_0, this, cond_false]) (f := N) (by omega)
  refine this.trans ?_
  have e : (List.range 2).find? (fun i => atD [s, s1] i longB true) = cond (longB s) (some 0) (cond (longB s1) (some 1) none) := by
    have e1 : atD [s, s1] 0 longB true = longB s := rfl
    have e2 : atD [s, s1] 1 longB true = longB s1 := rfl
    rw [show List.range 2 = [0, 1] from rfl, List.find?_cons, List.find?_cons, e1, e2]
    cases longB s <;> cases longB s1 <;> rfl
  rw [e]
  cases longB s <;> cases longB s1 <;> rfl

def tagOf (s s1 : ByteArray) : ByteArray := cond (longB s || longB s1) ⟨[].toArray⟩ (putWord (mix (s ++ s1) 21) ++ putWord (mix (s1 ++ s) 22))

theorem longB_size {s : ByteArray} (h : longB s = false) : s.size ≤ 4096 := by
  have := of_decide_eq_false h
  omega

theorem spec_TagOf_eq {s s1 : ByteArray} (hN : 2 ^ 40 < N) (k : ByteArray → Option R) : g_spec_TagOf N s s1 k = k (tagOf s s1) := by
  unfold g_spec_TagOf tagOf
  rw [cond_somes, oK_some_eq, Bool.cond_true_left]
  change cond (longB s || longB s1) _ _ = _
  cases h : (longB s || longB s1) with
  | true => rfl
  | false =>
    obtain ⟨h1, h2⟩ := Bool.or_eq_false_iff.1 h
    have h1 := longB_size h1
    have h2 := longB_size h2
    simp only [cond_false]
    rw [ble_t (by omega), cond_true, spec_Mix_eq N hN, decide_eq_false (by rw [ByteArray.size_append]; omega), cond_false, spec_PutWord_eq, ble_t (by omega), cond_true, spec_Mix_eq N hN, decide_eq_false (by rw [ByteArray.size_append]; omega), cond_false, spec_PutWord_eq, putWord_size, putWord_size]
    rfl

theorem impl_TagOf_eq {s s1 : ByteArray} (hN : 2 ^ 40 < N) (k : ByteArray → Option R) : g_impl_TagOf N s s1 k = k (tagOf s s1) := by
  unfold g_impl_TagOf tagOf
  rw [longKey2_eq N hN]
  cases h : (longB s || longB s1) with
  | true => rfl
  | false =>
    obtain ⟨h1, h2⟩ := Bool.or_eq_false_iff.1 h
    have h1 := longB_size h1
    have h2 := longB_size h2
    simp only [cond_false]
    rw [ble_t (by omega), cond_true, impl_ymix_eq N (by rw [ByteArray.size_append]; omega) hN, impl_PutWord_eq, ble_t (by omega), cond_true, impl_ymix_eq N (by rw [ByteArray.size_append]; omega) hN, impl_PutWord_eq, putWord_size, putWord_size]
    rfl

def sh (W : Int) : Nat → Int
  | 0 => W
  | d + 1 => sh W d / 256

theorem sh_pow (W : Int) : ∀ {d : Nat}, d < 3 → Int.fdiv W (2 ^ (Min.min (8 * d) 64)) = sh W d
  | 0, _ => by rw [fdiv_lit _ (by decide)]; show W / 1 = W; omega
  | 1, _ => by rw [fdiv_lit _ (by decide)]; rfl
  | 2, _ => by rw [fdiv_lit _ (by decide)]; show W / 65536 = W / 256 / 256; omega
  | d + 3, h => by omega

def cryptW (s : ByteArray) (n : Int) (q : Nat) : Int := mix (s ++ putWord n ++ putWord (q : Int)) 11

def xb (x c : Int) : Int := IntKind.wrap .u8 (((BitVec.ofInt 8 x ^^^ BitVec.ofInt 8 (IntKind.wrap .u8 c)).toNat : Nat) : Int)

def cryptB (s : ByteArray) (n : Int) (i : Nat) (x : Int) : Int := xb x (sh (cryptW s n (i / 3)) (i % 3))

def cryptL (s : ByteArray) (n : Int) (l : List Int) : List Int := (List.range l.length).map fun i => atD l i (cryptB s n i) 0

theorem cryptL_length (s : ByteArray) (n : Int) (l : List Int) : (cryptL s n l).length = l.length := by simp [cryptL]

theorem nth_cryptL {s : ByteArray} {n : Int} {l : List Int} {i : Nat} {x : Int} (h : nth l i = some x) : nth (cryptL s n l) i = some (cryptB s n i x) := by
  have hi := nth_lt h
  unfold cryptL
  rw [nth_map, nth_eq, List.getElem?_range hi]
  show some (atD l i (cryptB s n i) 0) = _
  rw [atD_some h]

theorem cryptL_of {s : ByteArray} {n : Int} {l ys : List Int} (hl : ys.length = l.length) (h : ∀ j x, nth l j = some x → nth ys j = some (cryptB s n j x)) : ys = cryptL s n l := by
  refine ext_nth fun j => ?_
  rcases Nat.lt_or_ge j l.length with hj | hj
  · obtain ⟨x, hx⟩ := nth_some hj
    rw [h j x hx, nth_cryptL hx]
  · rw [nth_none (by omega), nth_none (by rw [cryptL_length]; exact hj)]

def cryptBad (s t : ByteArray) : Bool := longB s || decide ((t.size : Int) > 65536)

def crypt (s : ByteArray) (n : Int) (t : ByteArray) : ByteArray := cond (cryptBad s t) ⟨[].toArray⟩ (toBytes (cryptL s n (ofBytes t)))

theorem spec_Crypt_go {s : ByteArray} {n : Int} {l : List Int} (hs : s.size ≤ 4096) (hl : l.length ≤ 65536) (hN : 2 ^ 40 < N) (kN : List Int → Option R) : l_spec_Crypt_0 N (s ++ putWord n) false kN N 0 0 l = kN (cryptL s n l) := by
  obtain ⟨h1, h2, _, h4, _⟩ := fold (fun f i (st : Int × List Int) => l_spec_Crypt_0 N (s ++ putWord n) false kN f st.1 i st.2) l.length
    (fun i st => (cond (decide (i % 3 = 0)) (cryptW s n (i / 3)) st.1, nset st.2 i (atD st.2 i (fun x => xb x (sh (cond (decide (i % 3 = 0)) (cryptW s n (i / 3)) st.1) (i % 3))) 0)))
    (fun i st => st.2.length = l.length ∧ (i % 3 ≠ 0 → st.1 = cryptW s n (i / 3)) ∧ (∀ j x, j < i → nth l j = some x → nth st.2 j = some (cryptB s n j x)) ∧ ∀ j, i ≤ j → nth st.2 j = nth l j) (fun st => kN st.2)
    (fun f i st0 hi hst => by
      obtain ⟨w, ys⟩ := st0
      obtain ⟨i1, i2, i3, i4⟩ := hst
      dsimp only at i1 i2 i3 i4
      have hiy : i < ys.length := by omega
      obtain ⟨x, hx⟩ := nth_some hiy
      have hm : (Int.tmod (i : Int) 3 == 0) = decide (i % 3 = 0) := by
        rw [tmod_nn (by omega), beq_dec]
        exact decide_eq_decide.2 (by omega)
      have hd : IntKind.wrap .i64 (Int.tdiv (i : Int) 3) = ((i / 3 : Nat) : Int) := by rw [tdiv_nn (by omega), w64 (by omega) (by omega)]; omega
      have h8 : IntKind.wrap .u64 (IntKind.wrap .i64 (8 * Int.tmod (i : Int) 3)) = ((8 * (i % 3) : Nat) : Int) := by
        rw [tmod_nn (by omega), w64 (by omega) (by omega), wu64 (by omega) (by omega)]; omega
      have hsz : (s ++ putWord n).size = s.size + 4 := by rw [ByteArray.size_append, putWord_size]
      have hsz2 : ∀ q : Int, (s ++ putWord n ++ putWord q).size = s.size + 8 := fun q => by rw [ByteArray.size_append, hsz, putWord_size]
      have hbig : ∀ q : Int, decide (((s ++ putWord n ++ putWord q).size : Int) > 65536) = false := fun q => decide_eq_false (by rw [hsz2]; omega)
      refine ⟨?_, by simpa using i1, fun hne => ?_, fun j y hj hy => ?_, fun j hj => ?_⟩
      · simp only [l_spec_Crypt_0, s_spec_Crypt_0, dec_lt hiy, dec_nn, Int.toNat_natCast, hm, hd, spec_PutWord_eq, hsz, putWord_size, ble_t (show s.size + 4 + 4 ≤ 9223372036854775807 by omega), spec_Mix_eq N hN, hbig, cond_true, cond_false, cond_somes, oK_some_eq, elemK_some hx, h8, decide_eq_false (show ¬ (((8 * (i % 3) : Nat) : Int) < 0) by omega), sh_pow _ (show i % 3 < 3 by omega), blt_t hiy, wrap_next hi (by omega), Bool.and_true, atD_some hx]
        rfl
      · dsimp only
        by_cases h0 : i % 3 = 0
        · rw [decide_eq_true h0, cond_true]; congr 1; omega
        · rw [decide_eq_false h0, cond_false, i2 h0]; congr 1; omega
      · dsimp only
        rw [nth_nset]
        split
        · rename_i hc
          have hji : j = i := by have := hc.1; omega
          rw [hji] at hy ⊢
          have hxy : x = y := by
            have := i4 i (Nat.le_refl _)
            rw [hx, hy] at this
            exact Option.some.inj this
          subst hxy
          rw [atD_some hx]
          unfold cryptB
          by_cases h0 : i % 3 = 0
          · rw [decide_eq_true h0, cond_true]
          · rw [decide_eq_false h0, cond_false, i2 h0]
        · rename_i hc
          exact i3 j y (by have : j ≠ i := fun e => hc ⟨e, by omega⟩; omega) hy
      · dsimp only
        rw [nth_nset, if_neg (fun e => by have := e.1; omega)]
        exact i4 j (by omega))
    (fun f st hst => by
      obtain ⟨w, ys⟩ := st
      have i1 : ys.length = l.length := hst.1
      simp only [l_spec_Crypt_0, s_spec_Crypt_0, i1, dec_nlt, cond_false]) (s := (0, l)) ⟨rfl, fun h => absurd rfl h, fun j x hj => absurd hj (by omega), fun _ _ => rfl⟩ (f := N) (by omega)
  refine h1.trans ?_
  congr 1
  exact cryptL_of h2 fun j x hx => h4 j x (nth_lt hx) hx

theorem spec_Crypt_eq {s : ByteArray} {n : Int} {t : ByteArray} (hN : 2 ^ 40 < N) (k : ByteArray → Option R) : g_spec_Crypt N s n t k = k (crypt s n t) := by
  unfold g_spec_Crypt crypt
  rw [cond_somes, oK_some_eq, Bool.cond_true_left]
  change cond (cryptBad s t) _ _ = _
  cases h : cryptBad s t with
  | true => rfl
  | false =>
    obtain ⟨h1, h2⟩ := Bool.or_eq_false_iff.1 h
    have h1 := longB_size h1
    have h2 := of_decide_eq_false h2
    simp only [cond_false, spec_PutWord_eq]
    rw [putWord_size, ble_t (by omega), cond_true]
    unfold c_spec_Crypt_0
    rw [spec_Crypt_go N h1 (by rw [ofBytes_length]; omega) hN, Nat.zero_add, ble_t (Nat.le_refl _), cond_true, seg_all]

theorem impl_Crypt_in {s : ByteArray} {n : Int} {i L : Nat} {W : Int} (hL : L ≤ 65536) (hi : i ≤ 65536) (kN : List Int → Option R) : ∀ (d j f : Nat) (ys : List Int), j + d = min L (i + 3) → i ≤ j → d < f → ys.length = L →
    ∃ ys', l_impl_Crypt_2 N s n false (i : Int) (L : Int) (i : Int) kN f (sh W (j - i)) (j : Int) ys = kN ys' ∧ ys'.length = L ∧ (∀ p x, j ≤ p → p < i + 3 → nth ys p = some x → nth ys' p = some (xb x (sh W (p - i)))) ∧ ∀ p, p < j ∨ i + 3 ≤ p → nth ys' p = nth ys p := by
  have hw : IntKind.wrap .i64 ((i : Int) + 3) = (i : Int) + 3 := w64 (by omega) (by omega)
  have hb : ∀ j : Nat, decide ((j : Int) < (if (decide ((L : Int) < (i : Int) + 3)) = true then (L : Int) else (i : Int) + 3)) = decide (j < min L (i + 3)) := fun j => by
    refine decide_eq_decide.2 ?_
    by_cases h : (L : Int) < (i : Int) + 3
    · rw [decide_eq_true h, if_pos rfl]; omega
    · rw [decide_eq_false h, if_neg (by simp)]; omega
  intro d
  induction d with
  | zero =>
    intro j f ys hj hij hf hys
    obtain ⟨f, rfl⟩ : ∃ g, f = g + 1 := ⟨f - 1, by omega⟩
    refine ⟨ys, ?_, hys, fun p x h1 h2 h3 => ?_, fun _ _ => rfl⟩
    · simp only [l_impl_Crypt_2, s_impl_Crypt_2, hys, hw, hb, decide_eq_false (show ¬ j < min L (i + 3) by omega), cond_false]
    · have := nth_lt h3; omega
  | succ d ih =>
    intro j f ys hj hij hf hys
    obtain ⟨f, rfl⟩ : ∃ g, f = g + 1 := ⟨f - 1, by omega⟩
    have hjL : j < ys.length := by omega
    obtain ⟨x, hx⟩ := nth_some hjL
    obtain ⟨ys', h1, h2, h3, h4⟩ := ih (j + 1) f (nset ys j (xb x (sh W (j - i)))) (by omega) (by omega) (by omega) (by simpa using hys)
    refine ⟨ys', ?_, h2, fun p y hp1 hp2 hy => ?_, fun p hp => ?_⟩
    · rw [← h1]
      have hjL2 : j < L := by omega
      have hs : sh W (j + 1 - i) = sh W (j - i) / 256 := by rw [show j + 1 - i = (j - i) + 1 by omega]; rfl
      rw [hs]
      simp only [l_impl_Crypt_2, s_impl_Crypt_2, hys, hw, hb, decide_eq_true (show j < min L (i + 3) by omega), dec_lt hjL2, dec_nn, Int.toNat_natCast, elemK_some hx, blt_t hjL2, wrap_next hjL2 (by omega), Bool.and_true, cond_true, fdiv_lit _ (show (0 : Int) ≤ 256 by omega)]
      rfl
    · by_cases hpj : p = j
      · subst hpj
        rw [h4 p (by omega), nth_nset, if_pos ⟨rfl, hjL⟩]
        rw [hx] at hy; cases hy; rfl
      · exact h3 p y (by omega) hp2 (by rw [nth_nset, if_neg (fun e => hpj e.1)]; exact hy)
    · rw [h4 p (by omega), nth_nset, if_neg (fun e => by have := e.1; omega)]

theorem impl_Crypt_go {s : ByteArray} {n : Int} {l : List Int} (hs : s.size ≤ 4096) (hl : l.length ≤ 65536) (hN : 2 ^ 40 < N) (kN : List Int → Option R) :
    ∀ (d i f : Nat) (ys : List Int), i + d = l.length → d < f → ys.length = l.length → (∀ p x, p < 3 * ((i + 2) / 3) → nth l p = some x → nth ys p = some (cryptB s n p x)) → (∀ p, 3 * ((i + 2) / 3) ≤ p → nth ys p = nth l p) → l_impl_Crypt_0 N s n false (l.length : Int) kN f (i : Int) ys = kN (cryptL s n l) := by
  intro d
  induction d with
  | zero =>
    intro i f ys hi hf hys h1 h2
    obtain ⟨f, rfl⟩ : ∃ g, f = g + 1 := ⟨f - 1, by omega⟩
    have : i = l.length := by omega
    subst this
    simp only [l_impl_Crypt_0, s_impl_Crypt_0, dec_nlt, cond_false]
    congr 1
    exact cryptL_of hys fun j x hx => h1 j x (by have := nth_lt hx; omega) hx
  | succ d ih =>
    intro i f ys hi hf hys h1 h2
    obtain ⟨f, rfl⟩ : ∃ g, f = g + 1 := ⟨f - 1, by omega⟩
    have hil : i < l.length := by omega
    have hm : (Int.tmod (i : Int) 3 == 0) = decide (i % 3 = 0) := by
      rw [tmod_nn (by omega), beq_dec]
      exact decide_eq_decide.2 (by omega)
    by_cases h0 : i % 3 = 0
    · have hd : IntKind.wrap .i64 (Int.tdiv (i : Int) 3) = ((i / 3 : Nat) : Int) := by rw [tdiv_nn (by omega), w64 (by omega) (by omega)]; omega
      have hsz : (catB [s, putWord n, putWord ((i / 3 : Nat) : Int)]).size = s.size + 8 := by
        rw [catB_size]; simp only [List.map_cons, List.map_nil, List.sum_cons, List.sum_nil, putWord_size]; omega
      have hcat : catB [s, putWord n, putWord ((i / 3 : Nat) : Int)] = s ++ putWord n ++ putWord ((i / 3 : Nat) : Int) := by
        simp only [catB]; rw [ba_append_empty, ByteArray.append_assoc]
      simp only [l_impl_Crypt_0, s_impl_Crypt_0, dec_lt hil, hm, decide_eq_true h0, cond_true, impl_PutWord_eq, hd]
      rw [impl_yjoinw_eq N (by simp) (by rw [hsz]; omega), impl_ymix_eq N (by rw [hsz]; omega) hN, hcat]
      unfold c_impl_Crypt_2
      obtain ⟨ys', e1, e2, e3, e4⟩ := impl_Crypt_in (R := R) N (s := s) (n := n) (i := i) (L := l.length) (W := cryptW s n (i / 3)) hl (by omega) (fun l2 => l_impl_Crypt_0 N s n false (l.length : Int) kN f (IntKind.wrap .i64 ((i : Int) + 1)) l2) (min l.length (i + 3) - i) i N ys (by omega) (Nat.le_refl _) (by omega) hys
      rw [Nat.sub_self] at e1
      refine Eq.trans e1 ?_
      rw [wrap_next hil (by omega)]
      refine ih (i + 1) f ys' (by omega) (by omega) e2 (fun p x hp hx => ?_) (fun p hp => ?_)
      · by_cases hpi : p < i
        · rw [e4 p (.inl hpi)]; exact h1 p x (by omega) hx
        · have hy : nth ys p = some x := by rw [h2 p (by omega)]; exact hx
          rw [e3 p x (by omega) (by omega) hy]
          unfold cryptB
          rw [show p / 3 = i / 3 by omega, show p % 3 = p - i by omega]
      · rw [e4 p (.inr (by omega))]; exact h2 p (by omega)
    · simp only [l_impl_Crypt_0, s_impl_Crypt_0, dec_lt hil, hm, decide_eq_false h0, cond_true, cond_false, wrap_next hil (show l.length ≤ 2 ^ 62 by omega)]
      refine ih (i + 1) f ys (by omega) (by omega) hys (fun p x hp hx => h1 p x (by omega) hx) (fun p hp => h2 p (by omega))

theorem impl_Crypt_eq {s : ByteArray} {n : Int} {t : ByteArray} (hN : 2 ^ 40 < N) (k : ByteArray → Option R) : g_impl_Crypt N s n t k = k (crypt s n t) := by
  unfold g_impl_Crypt crypt
  rw [longKey_eq N hN, ybig_eq N hN, cond_somes, oK_some_eq, Bool.cond_true_left]
  change cond (cryptBad s t) _ _ = _
  cases h : cryptBad s t with
  | true => rfl
  | false =>
    obtain ⟨h1, h2⟩ := Bool.or_eq_false_iff.1 h
    have h1 := longB_size h1
    have h2 := of_decide_eq_false h2
    simp only [cond_false]
    unfold c_impl_Crypt_0
    have hlen : (ofBytes t).length ≤ 65536 := by rw [ofBytes_length]; omega
    have := impl_Crypt_go (R := R) N (s := s) (n := n) (l := ofBytes t) h1 hlen hN (fun l3 => cond (Nat.ble (0 + l3.length) l3.length) (k (toBytes (seg l3 0 l3.length))) none) (ofBytes t).length 0 N (ofBytes t) (by omega) (by omega) rfl (fun p x hp => absurd hp (by omega)) (fun _ _ => rfl)
    refine this.trans ?_
    rw [Nat.zero_add, ble_t (Nat.le_refl _), cond_true, seg_all]


theorem xb_bound (x c : Int) : 0 ≤ xb x c ∧ xb x c < 256 := by unfold xb; rw [Go.Eng.wu8]; omega

theorem xb_xb {x : Int} (c : Int) (h0 : 0 ≤ x) (h1 : x < 256) : xb (xb x c) c = x := by
  obtain ⟨n, rfl⟩ := Int.eq_ofNat_of_zero_le h0
  have hn : n < 256 := by omega
  unfold xb
  generalize BitVec.ofInt 8 (IntKind.wrap .u8 c) = d
  have e1 : (BitVec.ofInt 8 (n : Int)) = BitVec.ofNat 8 n := by
    apply BitVec.eq_of_toNat_eq
    rw [BitVec.toNat_ofInt, BitVec.toNat_ofNat]
    omega
  have hlt : (BitVec.ofInt 8 (n : Int) ^^^ d).toNat < 256 := (BitVec.ofInt 8 (n : Int) ^^^ d).isLt
  have e2 : IntKind.wrap .u8 (((BitVec.ofInt 8 (n : Int) ^^^ d).toNat : Nat) : Int) = (((BitVec.ofInt 8 (n : Int) ^^^ d).toNat : Nat) : Int) := by rw [Go.Eng.wu8]; omega
  rw [e2]
  have e3 : BitVec.ofInt 8 ((((BitVec.ofInt 8 (n : Int) ^^^ d).toNat : Nat) : Int)) = BitVec.ofInt 8 (n : Int) ^^^ d := by
    apply BitVec.eq_of_toNat_eq
    rw [BitVec.toNat_ofInt]
    omega
  rw [e3, BitVec.xor_assoc, BitVec.xor_self, BitVec.xor_zero, e1, BitVec.toNat_ofNat, Go.Eng.wu8]
  omega

theorem ofBytes_bound {s : ByteArray} {i : Nat} {x : Int} (h : nth (ofBytes s) i = some x) : 0 ≤ x ∧ x < 256 := by
  have hi := nth_lt h
  rw [ofBytes_length] at hi
  rw [nth_ofBytes hi] at h
  cases h
  have := bt_bound s i
  omega

theorem cryptL_bound {s : ByteArray} {n : Int} {l : List Int} : ∀ x ∈ cryptL s n l, 0 ≤ x ∧ x < 256 := by
  intro x hx
  unfold cryptL at hx
  rw [List.mem_map] at hx
  obtain ⟨i, hi, rfl⟩ := hx
  unfold atD
  split
  · exact xb_bound _ _
  · omega

theorem crypt_size {s t : ByteArray} {n : Int} (h : cryptBad s t = false) : (crypt s n t).size = t.size := by
  unfold crypt
  rw [h, cond_false, toBytes_size, cryptL_length, ofBytes_length]

theorem cryptL_cryptL (s : ByteArray) (n : Int) (t : ByteArray) : cryptL s n (cryptL s n (ofBytes t)) = ofBytes t := by
  refine ext_nth fun j => ?_
  rcases Nat.lt_or_ge j (ofBytes t).length with hj | hj
  · obtain ⟨x, hx⟩ := nth_some hj
    obtain ⟨h0, h1⟩ := ofBytes_bound hx
    rw [nth_cryptL (nth_cryptL hx), hx]
    unfold cryptB
    rw [xb_xb _ h0 h1]
  · rw [nth_none (by rw [cryptL_length, cryptL_length]; exact hj), nth_none hj]

theorem crypt_crypt {s t : ByteArray} {n : Int} (h : cryptBad s t = false) : crypt s n (crypt s n t) = t := by
  have hsz := crypt_size (n := n) h
  have h2 : cryptBad s (crypt s n t) = false := by
    unfold cryptBad at h ⊢
    rw [hsz]; exact h
  have e : crypt s n t = toBytes (cryptL s n (ofBytes t)) := by unfold crypt; rw [h, cond_false]
  rw [show crypt s n (crypt s n t) = toBytes (cryptL s n (ofBytes (crypt s n t))) by rw [crypt, h2, cond_false], e, ofBytes_toBytes cryptL_bound, cryptL_cryptL, toBytes_ofBytes]

def makeBad1 (s s1 : ByteArray) : Bool := longB s || longB s1

def makeBad2 (s : ByteArray) (n : Int) : Bool := ((s.size : Int) != 16) || !isW n

def makeF (s s1 : ByteArray) (n : Int) (k : Int → Bool → ByteArray → List KeySlot → Option R) : Option R :=
  cond (makeBad1 s s1) (k 2 true ⟨[].toArray⟩ []) (cond (makeBad2 s n) (k 1 true ⟨[].toArray⟩ []) (k 0 false (tagOf s ⟨[].toArray⟩) [⟨n, crypt s1 n s, tagOf s1 (crypt s1 n s)⟩]))

theorem spec_MakeVolume_eq {s s1 : ByteArray} {n : Int} (hN : 2 ^ 40 < N) (k : Int → Bool → ByteArray → List KeySlot → Option R) : g_spec_MakeVolume N s s1 n k = makeF s s1 n k := by
  unfold g_spec_MakeVolume g_spec_l15Slot makeF
  simp only [cond_somes, oK_some_eq, Bool.cond_true_left, spec_l01IsWord_eq, spec_Crypt_eq N hN, spec_TagOf_eq N hN]
  rfl

theorem impl_MakeVolume_eq {s s1 : ByteArray} {n : Int} (hN : 2 ^ 40 < N) (k : Int → Bool → ByteArray → List KeySlot → Option R) : g_impl_MakeVolume N s s1 n k = makeF s s1 n k := by
  unfold g_impl_MakeVolume g_impl_yslot makeF
  simp only [longKey2_eq N hN, cond_somes, oK_some_eq, Bool.cond_true_left, impl_yisWord_eq, impl_Crypt_eq N hN, impl_TagOf_eq N hN]
  rfl

/-- A search for what a kind of row gives. -/
theorem srchS {T S : Type} (lp : Nat → Int → Option R) (l : List T) (p : T → Option S) (kR : S → Option R) (kN : Option R)
    (h : ∀ f i x, i < l.length → nth l i = some x → lp (f + 1) (i : Int) = match p x with | some y => kR y | none => lp f ((i + 1 : Nat) : Int))
    (he : ∀ f, lp (f + 1) (l.length : Int) = kN) {f : Nat} (hf : l.length < f) : lp f 0 = match l.findSome? p with | some y => kR y | none => kN := by
  have key : ∀ d i f, i + d = l.length → d < f → lp f (i : Int) = match (l.drop i).findSome? p with | some y => kR y | none => kN := by
    intro d
    induction d with
    | zero =>
      intro i f hi hf
      obtain ⟨f, rfl⟩ : ∃ j, f = j + 1 := ⟨f - 1, by omega⟩
      have : i = l.length := by omega
      subst this
      rw [he f, List.drop_of_length_le (Nat.le_refl _)]
      rfl
    | succ d ih =>
      intro i f hi hf
      obtain ⟨f, rfl⟩ : ∃ j, f = j + 1 := ⟨f - 1, by omega⟩
      have hil : i < l.length := by omega
      obtain ⟨x, hx⟩ := nth_some hil
      have hdr : l.drop i = x :: l.drop (i + 1) := by
        have hx2 := hx
        rw [nth_eq] at hx2
        obtain ⟨h1, h2⟩ := List.getElem?_eq_some_iff.1 hx2
        rw [← h2]; exact List.drop_eq_getElem_cons h1
      rw [h f i x hil hx, hdr, List.findSome?_cons]
      cases p x with
      | some y => rfl
      | none => exact ih (i + 1) f (by omega) (by omega)
  exact key l.length 0 f (by omega) hf

def opens (s pw : ByteArray) (x : KeySlot) : Option ByteArray := cond (!decide (tagOf pw x.fKey = x.fTag)) none (cond (decide (tagOf (crypt pw x.fSalt x.fKey) ⟨[].toArray⟩ = s)) (some (crypt pw x.fSalt x.fKey)) none)

def openR (s pw : ByteArray) (l : List KeySlot) : Int × ByteArray := cond (longB pw) (2, ⟨[].toArray⟩) (cond (volBad s l) (1, ⟨[].toArray⟩) (match l.findSome? (opens s pw) with
  | some y => (0, y)
  | none => (7, ⟨[].toArray⟩)))

theorem volBad_code (s : ByteArray) (l : List KeySlot) : ((cond (volBad s l) (1 : Int) 0) != 0) = volBad s l := by cases volBad s l <;> rfl

theorem spec_OpenVolume_eq {s pw : ByteArray} {l : List KeySlot} {b : Bool} (hN : 2 ^ 40 < N) (k : Int → ByteArray → Option R) : g_spec_OpenVolume_w N b s pw l k = k (openR s pw l).1 (openR s pw l).2 := by
  unfold g_spec_OpenVolume_w openR
  change cond (longB pw) _ _ = _
  cases longB pw with
  | true => rfl
  | false =>
    rw [cond_false, spec_VolumeFault_w_eq N hN, volBad_code]
    cases hv : volBad s l with
    | true => rfl
    | false =>
      have hl := volBad_len hv
      simp only [cond_false]
      unfold c_spec_OpenVolume_w_0
      rw [srchS (l_spec_OpenVolume_w_0 N pw l b s 0 ⟨[].toArray⟩ (fun s8 => k 0 s8) (k 7 ⟨[].toArray⟩)) l (opens s pw) (fun s8 => k 0 s8) (k 7 ⟨[].toArray⟩) (fun f i x hi hx => ?_) (fun f => ?_) (by omega)]
      · cases l.findSome? (opens s pw) <;> rfl
      · simp only [l_spec_OpenVolume_w_0, s_spec_OpenVolume_w_0, dec_lt hi, dec_nn, Int.toNat_natCast, elemK_some hx, wrap_next hi (by omega), Bool.and_true, cond_true, spec_TagOf_eq N hN, spec_Crypt_eq N hN, opens]
        cases decide (tagOf pw x.fKey = x.fTag) <;> cases decide (tagOf (crypt pw x.fSalt x.fKey) ⟨[].toArray⟩ = s) <;> rfl
      · simp only [l_spec_OpenVolume_w_0, s_spec_OpenVolume_w_0, dec_nlt, cond_false]

theorem impl_yopenVolume_eq {s pw : ByteArray} {l : List KeySlot} {b : Bool} (hl : l.length ≤ 4) (hN : 2 ^ 40 < N) (k : ByteArray → Bool → Option R) : g_impl_yopenVolume_w N b s pw l k = match l.findSome? (opens s pw) with | some y => k y true | none => k ⟨[].toArray⟩ false := by
  unfold g_impl_yopenVolume_w c_impl_yopenVolume_w_0
  rw [srchS (l_impl_yopenVolume_w_0 N pw b l.length l b s (fun s7 => k s7 true) (k ⟨[].toArray⟩ false)) l (opens s pw) (fun s7 => k s7 true) (k ⟨[].toArray⟩ false) (fun f i x hi hx => ?_) (fun f => ?_) (f := N) (by omega)]
  · cases l.findSome? (opens s pw) <;> rfl
  · simp only [l_impl_yopenVolume_w_0, s_impl_yopenVolume_w_0, dec_lt hi, dec_nn, Int.toNat_natCast, elemK_some hx, wrap_next hi (by omega), Bool.and_true, cond_true, impl_TagOf_eq N hN, impl_Crypt_eq N hN, opens]
    cases decide (tagOf pw x.fKey = x.fTag) <;> cases decide (tagOf (crypt pw x.fSalt x.fKey) ⟨[].toArray⟩ = s) <;> rfl
  · simp only [l_impl_yopenVolume_w_0, s_impl_yopenVolume_w_0, dec_nlt, cond_false]

theorem impl_OpenVolume_eq {s pw : ByteArray} {l : List KeySlot} {b : Bool} (hN : 2 ^ 40 < N) (k : Int → ByteArray → Option R) : g_impl_OpenVolume_w N b s pw l k = k (openR s pw l).1 (openR s pw l).2 := by
  unfold g_impl_OpenVolume_w openR
  rw [longKey_eq N hN]
  change cond (longB pw) _ _ = _
  cases longB pw with
  | true => rfl
  | false =>
    rw [cond_false, impl_VolumeFault_w_eq N hN, volBad_code]
    cases hv : volBad s l with
    | true => rfl
    | false =>
      have hl := volBad_len hv
      simp only [cond_false]
      rw [impl_yopenVolume_eq N hl.2 hN]
      cases l.findSome? (opens s pw) <;> rfl

def addSlot (s2 : ByteArray) (n : Int) (key : ByteArray) : KeySlot := ⟨n, crypt s2 n key, tagOf s2 (crypt s2 n key)⟩

def addF (s pw s2 : ByteArray) (n : Int) (l : List KeySlot) (k : Int → Bool → ByteArray → List KeySlot → Option R) : Option R :=
  cond (longB pw || longB s2) (k 2 true ⟨[].toArray⟩ []) (cond ((openR s pw l).1 != 0) (k (openR s pw l).1 true ⟨[].toArray⟩ []) (cond (!isW n) (k 1 true ⟨[].toArray⟩ []) (cond ((l.length : Int) == 4) (k 4 true ⟨[].toArray⟩ []) (k 0 false s (l ++ [addSlot s2 n (openR s pw l).2])))))

theorem spec_AddPass_eq {s pw s2 : ByteArray} {n : Int} {l : List KeySlot} {b : Bool} (hl : l.length ≤ 2 ^ 30) (hN : 2 ^ 40 < N) (k : Int → Bool → ByteArray → List KeySlot → Option R) : g_spec_AddPass_w N b s pw s2 n l k = addF s pw s2 n l k := by
  unfold g_spec_AddPass_w addF
  simp only [cond_somes, oK_some_eq, Bool.cond_true_left, spec_OpenVolume_eq N hN, spec_l01IsWord_eq, g_spec_l15Slot, spec_Crypt_eq N hN, spec_TagOf_eq N hN]
  rw [room (n := 0 + l.length) (by omega) (by omega)]
  have h2 : roomOk (([] ++ l).length + [addSlot s2 n (openR s pw l).2].length) 40 = true := room (by simp; omega) (by simp; omega)
  change cond (longB pw || longB s2) _ (cond _ _ (cond (!isW n) _ (cond _ _ (cond true (cond (roomOk (([] ++ l).length + [addSlot s2 n (openR s pw l).2].length) 40) _ _) _)))) = _
  rw [h2]
  rfl

theorem impl_AddPass_eq {s pw s2 : ByteArray} {n : Int} {l : List KeySlot} {b : Bool} (hb : b = false) (hl : l.length ≤ 2 ^ 30) (hN : 2 ^ 40 < N) (k : Int → Bool → ByteArray → List KeySlot → Option R) : g_impl_AddPass_w N b s pw s2 n l k = addF s pw s2 n l k := by
  subst hb
  unfold g_impl_AddPass_w addF
  rw [longKey2_eq N hN]
  cases h1 : (longB pw || longB s2) with
  | true => rfl
  | false =>
    obtain ⟨h1a, _⟩ := Bool.or_eq_false_iff.1 h1
    rw [cond_false, cond_false, impl_VolumeFault_w_eq N hN, volBad_code]
    unfold openR
    rw [h1a, cond_false]
    cases hv : volBad s l with
    | true => rfl
    | false =>
      have hlv := volBad_len hv
      simp only [cond_false]
      rw [impl_yopenVolume_eq N hlv.2 hN]
      cases l.findSome? (opens s pw) with
      | none => rfl
      | some y =>
        simp only [impl_yisWord_eq, g_slices_Clone_KeySlot_r, g_impl_yslot, impl_Crypt_eq N hN, impl_TagOf_eq N hN, Bool.not_true, cond_false, cond_same, List.nil_append]
        rw [room (n := 0 + l.length) (by omega) (by omega)]
        have h2 : roomOk (l.length + [addSlot s2 n y].length) 40 = true := room (by simp; omega) (by simp; omega)
        change cond (!isW n) _ (cond _ _ (cond true (cond (roomOk (l.length + [addSlot s2 n y].length) 40) _ _) _)) = _
        rw [h2]
        rfl

theorem tagOf_size {s s1 : ByteArray} (h : (longB s || longB s1) = false) : (tagOf s s1).size = 8 := by
  unfold tagOf
  rw [h, cond_false, ByteArray.size_append, putWord_size, putWord_size]

theorem longB_of {s : ByteArray} (h : s.size ≤ 4096) : longB s = false := by unfold longB; exact decide_eq_false (by omega)

theorem cryptBad_of {pw t : ByteArray} (h : longB pw = false) (ht : t.size ≤ 65536) : cryptBad pw t = false := by unfold cryptBad; rw [h, decide_eq_false (by omega)]; rfl

theorem slot_ok {pw key : ByteArray} {n : Int} (hp : longB pw = false) (hk : key.size = 16) (hn : isW n = true) : slotBad (addSlot pw n key) = false := by
  have hb := cryptBad_of hp (show key.size ≤ 65536 by omega)
  have hs := crypt_size (n := n) hb
  unfold slotBad addSlot
  dsimp only
  rw [hn, hs, hk, tagOf_size (by rw [hp, longB_of (by omega)]; rfl)]
  rfl

theorem opens_own {pw master : ByteArray} {n : Int} (hp : longB pw = false) (hk : master.size = 16) : opens (tagOf master ⟨[].toArray⟩) pw (addSlot pw n master) = some master := by
  have hb := cryptBad_of hp (show master.size ≤ 65536 by omega)
  unfold opens addSlot
  dsimp only
  rw [decide_eq_true rfl, Bool.not_true, cond_false, crypt_crypt hb, decide_eq_true rfl, cond_true]

theorem volBad_one {c : ByteArray} {x : KeySlot} (hc : c.size = 8) (hx : slotBad x = false) : volBad c [x] = false := by
  unfold volBad
  rw [hc]
  simp [hx]

theorem volBad_two {c : ByteArray} {x y : KeySlot} (hc : c.size = 8) (hx : slotBad x = false) (hy : slotBad y = false) : volBad c [x, y] = false := by
  unfold volBad
  rw [hc]
  simp [hx, hy]

theorem openR_some {c pw : ByteArray} {l : List KeySlot} {y : ByteArray} (hp : longB pw = false) (hv : volBad c l = false) (h : l.findSome? (opens c pw) = some y) : openR c pw l = (0, y) := by
  unfold openR
  rw [hp, cond_false, hv, cond_false, h]

theorem openR_none {c pw : ByteArray} {l : List KeySlot} (hp : longB pw = false) (hv : volBad c l = false) (h : (openR c pw l).1 ≠ 0) : l.findSome? (opens c pw) = none := by
  cases hf : l.findSome? (opens c pw) with
  | none => rfl
  | some y => rw [openR_some hp hv hf] at h; exact absurd rfl h


theorem ext_size (s : ByteArray) (a b : Nat) : (s.extract a b).size ≤ s.size := by rw [ByteArray.size_extract]; omega

theorem spec_VolumeFault_r_eq {s : ByteArray} {l : List KeySlot} {b : Bool} (hN : 2 ^ 40 < N) (k : Int → Option R) : g_spec_VolumeFault_r N b s l k = k (cond (volBad s l) 1 0) := by
  unfold g_spec_VolumeFault_r
  simp only [cond_somes, oK_some_eq, Bool.cond_true_left]
  have h1 : (decide ((l.length : Int) < 1) || (decide ((l.length : Int) > 4) || (s.size : Int) != 8)) = (!(decide (1 ≤ l.length) && decide (l.length ≤ 4)) || (s.size : Int) != 8) := by
    have a1 : decide ((l.length : Int) < 1) = !decide (1 ≤ l.length) := by rw [← decide_not]; exact decide_eq_decide.2 (by omega)
    have a2 : decide ((l.length : Int) > 4) = !decide (l.length ≤ 4) := by rw [Bool.eq_iff_iff]; simp; omega
    rw [a1, a2]
    cases decide (1 ≤ l.length) <;> cases decide (l.length ≤ 4) <;> rfl
  rw [h1]
  unfold volBad
  rw [← Bool.or_assoc]
  cases h : (!(decide (1 ≤ l.length) && decide (l.length ≤ 4)) || (s.size : Int) != 8) with
  | true => rfl
  | false =>
    have hl : l.length ≤ 4 := by
      cases hc : decide (l.length ≤ 4) with
      | true => exact of_decide_eq_true hc
      | false => rw [hc, Bool.and_false] at h; cases h
    rw [cond_false, Bool.false_or]
    unfold c_spec_VolumeFault_r_0
    rw [srch (l_spec_VolumeFault_r_0 N l b s (k 1) (k 0)) l.length (fun i => atD l i slotBad true) (k 1) (k 0) (fun f i hi => ?_) (fun f => ?_) (by omega), any_atD]
    · cases l.any slotBad <;> rfl
    · obtain ⟨x, hx⟩ := nth_some hi
      simp only [l_spec_VolumeFault_r_0, s_spec_VolumeFault_r_0, dec_lt hi, dec_nn, Int.toNat_natCast, elemK_some hx, wrap_next hi (by omega), Bool.and_true, cond_true, atD_some hx, spec_l01IsWord_eq, cond_somes, oK_some_eq, Bool.cond_true_left]
      rfl
    · simp only [l_spec_VolumeFault_r_0, s_spec_VolumeFault_r_0, dec_nlt, cond_false]

theorem impl_VolumeFault_r_eq {s : ByteArray} {l : List KeySlot} {b : Bool} (hN : 2 ^ 40 < N) (k : Int → Option R) : g_impl_VolumeFault_r N b s l k = k (cond (volBad s l) 1 0) := by
  unfold g_impl_VolumeFault_r g_slices_ContainsFunc_KeySlot_Fimpl_VolumeFault_1_r
  have h1 : decide ((l.length : Int) ≥ 1) = decide (1 ≤ l.length) := decide_eq_decide.2 (by omega)
  have h2 : decide ((l.length : Int) ≤ 4) = decide (l.length ≤ 4) := decide_eq_decide.2 (by omega)
  rw [impl_yin_eq, h1, h2]
  unfold volBad
  by_cases hl : l.length ≤ 4
  · rw [indexFunc_slot_eq N (by omega) hN]
    simp only [fstAt_nonneg, any_atD, cond_somes, oK_some_eq, Bool.cond_true_left]
    exact cond_app _ k 1 0
  · rw [decide_eq_false hl, Bool.and_false]; rfl

theorem spec_OpenVolume_r_eq {s pw : ByteArray} {l : List KeySlot} {b : Bool} (hN : 2 ^ 40 < N) (k : Int → ByteArray → Option R) : g_spec_OpenVolume_r N b s pw l k = k (openR s pw l).1 (openR s pw l).2 := by
  unfold g_spec_OpenVolume_r openR
  change cond (longB pw) _ _ = _
  cases longB pw with
  | true => rfl
  | false =>
    rw [cond_false, spec_VolumeFault_r_eq N hN, volBad_code]
    cases hv : volBad s l with
    | true => rfl
    | false =>
      have hl := volBad_len hv
      simp only [cond_false]
      unfold c_spec_OpenVolume_r_0
      rw [srchS (l_spec_OpenVolume_r_0 N pw l b s 0 ⟨[].toArray⟩ (fun s8 => k 0 s8) (k 7 ⟨[].toArray⟩)) l (opens s pw) (fun s8 => k 0 s8) (k 7 ⟨[].toArray⟩) (fun f i x hi hx => ?_) (fun f => ?_) (by omega)]
      · cases l.findSome? (opens s pw) <;> rfl
      · simp only [l_spec_OpenVolume_r_0, s_spec_OpenVolume_r_0, dec_lt hi, dec_nn, Int.toNat_natCast, elemK_some hx, wrap_next hi (by omega), Bool.and_true, cond_true, spec_TagOf_eq N hN, spec_Crypt_eq N hN, opens]
        cases decide (tagOf pw x.fKey = x.fTag) <;> cases decide (tagOf (crypt pw x.fSalt x.fKey) ⟨[].toArray⟩ = s) <;> rfl
      · simp only [l_spec_OpenVolume_r_0, s_spec_OpenVolume_r_0, dec_nlt, cond_false]

theorem impl_yopenVolume_r_eq {s pw : ByteArray} {l : List KeySlot} {b : Bool} (hl : l.length ≤ 4) (hN : 2 ^ 40 < N) (k : ByteArray → Bool → Option R) : g_impl_yopenVolume_r N b s pw l k = match l.findSome? (opens s pw) with | some y => k y true | none => k ⟨[].toArray⟩ false := by
  unfold g_impl_yopenVolume_r c_impl_yopenVolume_r_0
  rw [srchS (l_impl_yopenVolume_r_0 N pw b l.length l b s (fun s7 => k s7 true) (k ⟨[].toArray⟩ false)) l (opens s pw) (fun s7 => k s7 true) (k ⟨[].toArray⟩ false) (fun f i x hi hx => ?_) (fun f => ?_) (f := N) (by omega)]
  · cases l.findSome? (opens s pw) <;> rfl
  · simp only [l_impl_yopenVolume_r_0, s_impl_yopenVolume_r_0, dec_lt hi, dec_nn, Int.toNat_natCast, elemK_some hx, wrap_next hi (by omega), Bool.and_true, cond_true, impl_TagOf_eq N hN, impl_Crypt_eq N hN, opens]
    cases decide (tagOf pw x.fKey = x.fTag) <;> cases decide (tagOf (crypt pw x.fSalt x.fKey) ⟨[].toArray⟩ = s) <;> rfl
  · simp only [l_impl_yopenVolume_r_0, s_impl_yopenVolume_r_0, dec_nlt, cond_false]

theorem impl_OpenVolume_r_eq {s pw : ByteArray} {l : List KeySlot} {b : Bool} (hN : 2 ^ 40 < N) (k : Int → ByteArray → Option R) : g_impl_OpenVolume_r N b s pw l k = k (openR s pw l).1 (openR s pw l).2 := by
  unfold g_impl_OpenVolume_r openR
  rw [longKey_eq N hN]
  change cond (longB pw) _ _ = _
  cases longB pw with
  | true => rfl
  | false =>
    rw [cond_false, impl_VolumeFault_r_eq N hN, volBad_code]
    cases hv : volBad s l with
    | true => rfl
    | false =>
      have hl := volBad_len hv
      simp only [cond_false]
      rw [impl_yopenVolume_r_eq N hl.2 hN]
      cases l.findSome? (opens s pw) <;> rfl

theorem spec_AddPass_r_eq {s pw s2 : ByteArray} {n : Int} {l : List KeySlot} {b : Bool} (hl : l.length ≤ 2 ^ 30) (hN : 2 ^ 40 < N) (k : Int → Bool → ByteArray → List KeySlot → Option R) : g_spec_AddPass_r N b s pw s2 n l k = addF s pw s2 n l k := by
  unfold g_spec_AddPass_r addF
  simp only [cond_somes, oK_some_eq, Bool.cond_true_left, spec_OpenVolume_r_eq N hN, spec_l01IsWord_eq, g_spec_l15Slot, spec_Crypt_eq N hN, spec_TagOf_eq N hN]
  rw [room (n := 0 + l.length) (by omega) (by omega)]
  have h2 : roomOk (([] ++ l).length + [addSlot s2 n (openR s pw l).2].length) 40 = true := room (by simp; omega) (by simp; omega)
  change cond (longB pw || longB s2) _ (cond _ _ (cond (!isW n) _ (cond _ _ (cond true (cond (roomOk (([] ++ l).length + [addSlot s2 n (openR s pw l).2].length) 40) _ _) _)))) = _
  rw [h2]
  rfl

theorem addF_res (s pw s2 : ByteArray) (n : Int) (l : List KeySlot) : ∃ (c : Int) (b : Bool) (s' : ByteArray) (l' : List KeySlot), (c = 0 → s' = s ∧ ∃ y, l' = l ++ [y]) ∧ ∀ k : Int → Bool → ByteArray → List KeySlot → Option R, addF s pw s2 n l k = k c b s' l' := by
  unfold addF
  cases longB pw || longB s2 with
  | true => exact ⟨2, true, _, [], fun h => by omega, fun k => rfl⟩
  | false =>
    cases ho : (openR s pw l).1 != 0 with
    | true => exact ⟨(openR s pw l).1, true, ⟨[].toArray⟩, [], fun (h : (openR s pw l).1 = 0) => absurd h (by simpa using ho), fun k => rfl⟩
    | false =>
      cases !isW n with
      | true => exact ⟨1, true, _, [], fun h => by omega, fun k => rfl⟩
      | false =>
        cases (l.length : Int) == 4 with
        | true => exact ⟨4, true, _, [], fun h => by omega, fun k => rfl⟩
        | false => exact ⟨0, false, s, _, fun _ => ⟨rfl, _, rfl⟩, fun k => rfl⟩

/-- A volume with a first slot, and its sizes. -/
def VolIs (s : ByteArray) (l : List KeySlot) (m : Nat) : Prop := s.size ≤ 4096 ∧ l.length ≤ m ∧ ∃ x, nth l 0 = some x ∧ x.fKey.size ≤ 4096 ∧ x.fTag.size ≤ 4096

theorem volIs_add {s : ByteArray} {l : List KeySlot} {m : Nat} (h : VolIs s l m) (y : KeySlot) : VolIs s (l ++ [y]) (m + 1) := by
  obtain ⟨h1, h2, x, h3, h4⟩ := h
  refine ⟨h1, by simp; omega, x, ?_, h4⟩
  rw [nth_eq] at h3 ⊢
  rw [List.getElem?_append_left (by have := (List.getElem?_eq_some_iff.1 h3).1; omega)]
  exact h3

theorem volIs_mono {s : ByteArray} {l : List KeySlot} {m m' : Nat} (h : VolIs s l m) (hm : m ≤ m') : VolIs s l m' := ⟨h.1, by have := h.2.1; omega, h.2.2⟩

theorem volume_go {b4 : Bool} {n17 n18 n19 : Int} {l3 : List Int} {b5 : Bool} {s2 : ByteArray} {l4 : List KeySlot} (hN : 2 ^ 40 < N) :
    ∀ (d f m : Nat) (b6 : Bool) (s : ByteArray) (l : List KeySlot), d < f → VolIs s l m → m + d ≤ 100 →
    ∃ (b' : Bool) (s' : ByteArray) (l' : List KeySlot), VolIs s' l' (m + d) ∧ ∀ kN : Bool → ByteArray → List KeySlot → Option R, l_spec_l01Src_volume_Wr_0 N b4 n17 n18 n19 l3 b5 s2 l4 kN f (d : Int) b6 s l = kN b' s' l' := by
  intro d
  induction d with
  | zero =>
    intro f m b6 s l hf hv _
    obtain ⟨f, rfl⟩ : ∃ j, f = j + 1 := ⟨f - 1, by omega⟩
    refine ⟨b6, s, l, hv, fun kN => ?_⟩
    rw [l_spec_l01Src_volume_Wr_0, s_spec_l01Src_volume_Wr_0, decide_eq_false (show ¬ ((0 : Nat) : Int) > 0 by omega), cond_false]
  | succ d ih =>
    intro f m b6 s l hf hv hm
    obtain ⟨f, rfl⟩ : ∃ j, f = j + 1 := ⟨f - 1, by omega⟩
    have e : IntKind.wrap .i64 (((d + 1 : Nat) : Int) - 1) = ((d : Nat) : Int) := by rw [w64 (by omega) (by omega)]; omega
    obtain ⟨c, b', s', l', hc, ha⟩ := addF_res (R := R) s (ByteArray.mk (List.toArray [(111 : UInt8), (110 : UInt8), (101 : UInt8)])) (ByteArray.mk (List.toArray [(116 : UInt8), (104 : UInt8), (114 : UInt8), (101 : UInt8), (101 : UInt8)])) 5 l
    have hst : ∀ kN : Bool → ByteArray → List KeySlot → Option R, l_spec_l01Src_volume_Wr_0 N b4 n17 n18 n19 l3 b5 s2 l4 kN (f + 1) ((d + 1 : Nat) : Int) b6 s l = cond (c == 0) (l_spec_l01Src_volume_Wr_0 N b4 n17 n18 n19 l3 b5 s2 l4 kN f (d : Int) b' s' l') (l_spec_l01Src_volume_Wr_0 N b4 n17 n18 n19 l3 b5 s2 l4 kN f (d : Int) b6 s l) := fun kN => by
      rw [l_spec_l01Src_volume_Wr_0, s_spec_l01Src_volume_Wr_0, decide_eq_true (show ((d + 1 : Nat) : Int) > 0 by omega), cond_true, spec_AddPass_eq N (by have := hv.2.1; omega) hN, ha, e]
    cases h0 : (c == 0) with
    | true =>
      obtain ⟨rfl, y, rfl⟩ := hc (eq_of_beq h0)
      obtain ⟨b9, s9, l9, hv9, h9⟩ := ih f (m + 1) b' s' (l ++ [y]) (by omega) (volIs_add hv y) (by omega)
      exact ⟨b9, s9, l9, volIs_mono hv9 (by omega), fun kN => by rw [hst, h0, cond_true, h9]⟩
    | false =>
      obtain ⟨b9, s9, l9, hv9, h9⟩ := ih f m b6 s l (by omega) hv (by omega)
      exact ⟨b9, s9, l9, volIs_mono hv9 (by omega), fun kN => by rw [hst, h0, cond_false, h9]⟩

theorem isW_small {n : Int} (h0 : 0 ≤ n) (h1 : n < 4294967296) : isW n = true := by unfold isW; rw [decide_eq_true (show n ≥ 0 from h0), decide_eq_true h1]; rfl

/-- What a volume that is made holds. -/
theorem make_is {master pass : ByteArray} {n : Int} (h1 : master.size = 16) (h2 : pass.size ≤ 4096) (h3 : isW n = true) :
    (∀ k : Int → Bool → ByteArray → List KeySlot → Option R, makeF master pass n k = k 0 false (tagOf master ⟨[].toArray⟩) [addSlot pass n master]) ∧ (tagOf master ⟨[].toArray⟩).size = 8 ∧ (addSlot pass n master).fKey.size = 16 ∧ (addSlot pass n master).fTag.size = 8 := by
  have b1 := longB_of (s := master) (by omega)
  have b2 := longB_of h2
  have hb := cryptBad_of b2 (show master.size ≤ 65536 by omega)
  have hs := crypt_size (n := n) hb
  refine ⟨fun k => ?_, ?_, ?_, ?_⟩
  · unfold makeF makeBad1 makeBad2 addSlot
    rw [b1, b2, h1, h3]
    rfl
  · exact tagOf_size (by rw [b1]; rfl)
  · unfold addSlot; rw [hs, h1]
  · unfold addSlot; exact tagOf_size (by rw [b2, longB_of (by omega)]; rfl)

theorem add_is {master pass other : ByteArray} {n n2 : Int} (h1 : master.size = 16) (h2 : pass.size ≤ 4096) (h3 : isW n = true) (h4 : other.size ≤ 4096) (h5 : isW n2 = true) (k : Int → Bool → ByteArray → List KeySlot → Option R) :
    addF (tagOf master ⟨[].toArray⟩) pass other n2 [addSlot pass n master] k = k 0 false (tagOf master ⟨[].toArray⟩) [addSlot pass n master, addSlot other n2 master] := by
  have b2 := longB_of h2
  have b4 := longB_of h4
  obtain ⟨_, g1, _, _⟩ := make_is (R := R) h1 h2 h3
  have ho : openR (tagOf master ⟨[].toArray⟩) pass [addSlot pass n master] = (0, master) := openR_some b2 (volBad_one g1 (slot_ok b2 h1 h3)) (by rw [List.findSome?_cons, opens_own b2 h1])
  unfold addF
  rw [b2, b4, ho, h5]
  rfl


abbrev vMas : ByteArray := ByteArray.mk (List.toArray [(48 : UInt8), (49 : UInt8), (50 : UInt8), (51 : UInt8), (52 : UInt8), (53 : UInt8), (54 : UInt8), (55 : UInt8), (56 : UInt8), (57 : UInt8), (97 : UInt8), (98 : UInt8), (99 : UInt8), (100 : UInt8), (101 : UInt8), (102 : UInt8)])

abbrev vOne : ByteArray := ByteArray.mk (List.toArray [(111 : UInt8), (110 : UInt8), (101 : UInt8)])

abbrev vTwo : ByteArray := ByteArray.mk (List.toArray [(116 : UInt8), (119 : UInt8), (111 : UInt8)])

theorem volume_ok {b : Bool} {p m z : Int} {l : List Int} (hl : l.length ≤ 2 ^ 30) (hp : 0 ≤ p ∧ p ≤ 2 ^ 40) (hN : 2 ^ 40 < N) :
    ∃ (b' : Bool) (s' : ByteArray) (p' m' : Int) (l' : List KeySlot), VolIs s' l' 10 ∧ (0 ≤ p' ∧ p' ≤ 2 ^ 40) ∧ ∀ k : Bool → ByteArray → Int → Int → List KeySlot → Option R, g_spec_l01Src_volume_Wr N b p m z l k = k b' s' p' m' l' := by
  obtain ⟨v1, p1, m1, a0, a1, _, hp1, h1⟩ := src_n (R := R) N (n := 9) (b := b) (m := m) (z := z) (by omega) hl hp
  have a2 := a1 (by omega)
  have hw1 : isW v1 = true := isW_small a0 (by omega)
  obtain ⟨hmk, hc8, hk16, ht8⟩ := make_is (R := R) (master := vMas) (pass := vOne) (n := v1) (by decide) (by decide) hw1
  have had := fun (v : Int) (hv : isW v = true) (k : Int → Bool → ByteArray → List KeySlot → Option R) => add_is (R := R) (master := vMas) (pass := vOne) (other := vTwo) (n := v1) (n2 := v) (by decide) (by decide) hw1 (by decide) hv k
  obtain ⟨b2, p2, m2, hp2, h2⟩ := src_one (R := R) N (n := 2) (b := b) (m := m1) (z := z) (by omega) hl hp1
  cases b2 with
  | true =>
    obtain ⟨v3, p3, m3, c0, c1, _, hp3, h3⟩ := src_n (R := R) N (n := 9) (b := b) (m := m2) (z := z) (by omega) hl hp2
    have c2 := c1 (by omega)
    obtain ⟨v4, p4, m4, d0, d1, _, hp4, h4⟩ := src_n (R := R) N (n := 3) (b := b) (m := m3) (z := z) (by omega) hl hp3
    have d2 := d1 (by omega)
    obtain ⟨w, rfl⟩ := Int.eq_ofNat_of_zero_le d0
    obtain ⟨b', s', l', hv, hgo⟩ := volume_go (R := R) N (b4 := b) (n17 := p4) (n18 := m4) (n19 := z) (l3 := l) (b5 := true) (s2 := ByteArray.mk (List.toArray [])) (l4 := []) hN w N 2 false (tagOf vMas ⟨[].toArray⟩) [addSlot vOne v1 vMas, addSlot vTwo v3 vMas] (by omega) ⟨by rw [hc8]; omega, Nat.le_refl _, addSlot vOne v1 vMas, rfl, by rw [hk16]; omega, by rw [ht8]; omega⟩ (by omega)
    refine ⟨b', s', p4, m4, l', volIs_mono hv (by omega), hp4, fun k => ?_⟩
    unfold g_spec_l01Src_volume_Wr
    rw [h1, spec_MakeVolume_eq N hN, hmk, h2, cond_true, h3]
    rw [spec_AddPass_r_eq N (l := [addSlot vOne v1 vMas]) (show (1 : Nat) ≤ 2 ^ 30 by decide) hN, had v3 (isW_small c0 (by omega)), h4]
    unfold c_spec_l01Src_volume_Wr_0
    exact hgo _
  | false =>
    obtain ⟨v4, p4, m4, d0, d1, _, hp4, h4⟩ := src_n (R := R) N (n := 3) (b := b) (m := m2) (z := z) (by omega) hl hp2
    have d2 := d1 (by omega)
    obtain ⟨w, rfl⟩ := Int.eq_ofNat_of_zero_le d0
    obtain ⟨b', s', l', hv, hgo⟩ := volume_go (R := R) N (b4 := b) (n17 := p4) (n18 := m4) (n19 := z) (l3 := l) (b5 := true) (s2 := ByteArray.mk (List.toArray [])) (l4 := []) hN w N 2 false (tagOf vMas ⟨[].toArray⟩) [addSlot vOne v1 vMas] (by omega) ⟨by rw [hc8]; omega, by simp, addSlot vOne v1 vMas, rfl, by rw [hk16]; omega, by rw [ht8]; omega⟩ (by omega)
    refine ⟨b', s', p4, m4, l', volIs_mono hv (by omega), hp4, fun k => ?_⟩
    unfold g_spec_l01Src_volume_Wr
    rw [h1, spec_MakeVolume_eq N hN, hmk, h2, cond_false, h4]
    unfold c_spec_l01Src_volume_Wr_0
    exact hgo _

theorem pass_ok {b : Bool} {p m z : Int} {l : List Int} (hl : l.length ≤ 2 ^ 30) (hp : 0 ≤ p ∧ p ≤ 2 ^ 40) (hN : 2 ^ 40 < N) :
    ∃ (s' : ByteArray) (p' m' : Int), (0 ≤ p' ∧ p' ≤ 2 ^ 40) ∧ ∀ k : ByteArray → Int → Int → Option R, g_spec_l01Src_pass_Wr N b p m z l k = k s' p' m' := by
  obtain ⟨b1, p1, m1, hp1, h1⟩ := src_one (R := R) N (n := 30) (b := b) (m := m) (z := z) (by omega) hl hp
  cases b1 with
  | true =>
    obtain ⟨v2, p2, m2, a0, a1, _, hp2, h2⟩ := src_n (R := R) N (n := 2) (b := b) (m := m1) (z := z) (by omega) hl hp1
    have a2 := a1 (by omega)
    obtain ⟨w, rfl⟩ := Int.eq_ofNat_of_zero_le a0
    have e : IntKind.wrap .i64 (4096 + (w : Int)) = ((4096 + w : Nat) : Int) := by rw [w64 (by omega) (by omega)]; omega
    obtain ⟨s, _, h3⟩ := src_zeros (R := R) N (n := 4096 + w) (b := b) (p := p2) (m := m2) (z := z) (l := l) (by omega)
    exact ⟨s, p2, m2, hp2, fun k => by unfold g_spec_l01Src_pass_Wr; rw [h1, cond_true, h2, e, h3]⟩
  | false =>
    obtain ⟨v2, p2, m2, a0, a1, _, hp2, h2⟩ := src_n (R := R) N (n := 5) (b := b) (m := m1) (z := z) (by omega) hl hp1
    have a2 := a1 (by omega)
    obtain ⟨x, _, hk⟩ := pick_lit (R := R) (L := [(ByteArray.mk (List.toArray [(111 : UInt8), (110 : UInt8), (101 : UInt8)])), (ByteArray.mk (List.toArray [(116 : UInt8), (119 : UInt8), (111 : UInt8)])), (ByteArray.mk (List.toArray [(116 : UInt8), (104 : UInt8), (114 : UInt8), (101 : UInt8), (101 : UInt8)])), (ByteArray.mk (List.toArray [(110 : UInt8), (111 : UInt8)])), (ByteArray.mk (List.toArray []))]) a0 a2
    exact ⟨x, p2, m2, hp2, fun k => by unfold g_spec_l01Src_pass_Wr; rw [h1, cond_false, h2, in_rng a0 a2, cond_true, hk]⟩

theorem src_spoil2 {s : ByteArray} {b : Bool} {p m z : Int} {l : List Int} (hs : s.size ≤ 2 ^ 20) (hl : l.length ≤ 2 ^ 30) (hp : 0 ≤ p ∧ p ≤ 2 ^ 40) :
    ∃ (s' : ByteArray) (p' m' : Int), (0 ≤ p' ∧ p' ≤ 2 ^ 40) ∧ ∀ k : ByteArray → Int → Int → Option R, g_spec_l01Src_spoil_Wr N s b p m z l k = k s' p' m' := by
  obtain ⟨v1, p1, m1, a0, a1, a3, hp1, h1⟩ := src_n (R := R) N (n := ((s.size + 1 : Nat) : Int)) (b := b) (m := m) (z := z) (by omega) hl hp
  obtain ⟨w, rfl⟩ := Int.eq_ofNat_of_zero_le a0
  have hw : w ≤ s.size := by omega
  obtain ⟨v2, p2, m2, c0, c1, _, hp2, h2⟩ := src_n (R := R) N (n := 14) (b := b) (m := m1) (z := z) (by omega) hl hp1
  have c2 := c1 (by omega)
  obtain ⟨b3, p3, m3, hp3, h3⟩ := src_one (R := R) N (n := 3) (b := b) (m := m2) (z := z) (by omega) hl hp2
  obtain ⟨b4, p4, m4, hp4, h4⟩ := src_one (R := R) N (n := 2) (b := b) (m := m3) (z := z) (by omega) hl hp3
  have eW : IntKind.wrap .i64 ((s.size : Int) + 1) = ((s.size + 1 : Nat) : Int) := by rw [w64 (by omega) (by omega)]; omega
  have eX : ∀ v : Int, (toBytes (seg [v] 0 (List.length [v]))).size = 1 := fun v => by rw [toBytes_size]; rfl
  have d1 : decide ((w : Int) ≤ (s.size : Int)) = true := decide_eq_true (by omega)
  have d2 : decide ((s.size : Int) ≤ (s.size : Int)) = true := decide_eq_true (by omega)
  have x1 := fun a b => ext_size s a b
  by_cases he : w = s.size
  · have d3 : ((w : Int) == (s.size : Int)) = true := by rw [beq_dec]; exact decide_eq_true (by omega)
    apply Exists.intro; apply Exists.intro; apply Exists.intro
    refine ⟨hp2, ?_⟩
    intro k
    unfold g_spec_l01Src_spoil_Wr
    rw [eW, h1, h2, in_rng c0 c2, cond_true, d3, cond_true, dec_nn, d1, d2]
    simp -implicitDefEqProofs only [Bool.and_true, cond_true]
    rw [ble_t (by rw [eX]; have := x1 0 (Int.toNat (w : Int)); omega), cond_true, ble_t (by rw [ByteArray.size_append, eX]; have := x1 0 (Int.toNat (w : Int)); have := x1 (Int.toNat (w : Int)) (Int.toNat (s.size : Int)); omega), cond_true]
  · have d3 : ((w : Int) == (s.size : Int)) = false := by rw [beq_dec]; exact decide_eq_false (by omega)
    have e1 : IntKind.wrap .i64 ((w : Int) + 1) = ((w + 1 : Nat) : Int) := by rw [w64 (by omega) (by omega)]; omega
    have d4 : decide (((w + 1 : Nat) : Int) ≤ (s.size : Int)) = true := decide_eq_true (by omega)
    cases b3 with
    | true =>
      apply Exists.intro; apply Exists.intro; apply Exists.intro
      refine ⟨hp3, ?_⟩
      intro k
      unfold g_spec_l01Src_spoil_Wr
      rw [eW, h1, h2, in_rng c0 c2, cond_true, d3, cond_false, h3, cond_true, dec_nn, d1, d2]
      simp -implicitDefEqProofs only [Bool.and_true, cond_true]
      rw [ble_t (by rw [eX]; have := x1 0 (Int.toNat (w : Int)); omega), cond_true, ble_t (by rw [ByteArray.size_append, eX]; have := x1 0 (Int.toNat (w : Int)); have := x1 (Int.toNat (w : Int)) (Int.toNat (s.size : Int)); omega), cond_true]
    | false =>
      cases b4 with
      | true =>
        apply Exists.intro; apply Exists.intro; apply Exists.intro
        refine ⟨hp4, ?_⟩
        intro k
        unfold g_spec_l01Src_spoil_Wr
        rw [eW, h1, h2, in_rng c0 c2, cond_true, d3, cond_false, h3, cond_false, h4, cond_true, e1, dec_nn, dec_nn, d1, d2, d4]
        simp -implicitDefEqProofs only [Bool.and_true, cond_true]
        rw [ble_t (by have := x1 0 (Int.toNat (w : Int)); have := x1 (Int.toNat ((w + 1 : Nat) : Int)) (Int.toNat (s.size : Int)); omega), cond_true]
      | false =>
        apply Exists.intro; apply Exists.intro; apply Exists.intro
        refine ⟨hp4, ?_⟩
        intro k
        unfold g_spec_l01Src_spoil_Wr
        rw [eW, h1, h2, in_rng c0 c2, cond_true, d3, cond_false, h3, cond_false, h4, cond_false, e1, dec_nn, dec_nn, d1, d2, d4]
        simp -implicitDefEqProofs only [Bool.and_true, cond_true]
        rw [ble_t (by rw [eX]; have := x1 0 (Int.toNat (w : Int)); omega), cond_true, ble_t (by rw [ByteArray.size_append, eX]; have := x1 0 (Int.toNat (w : Int)); have := x1 (Int.toNat ((w + 1 : Nat) : Int)) (Int.toNat (s.size : Int)); omega), cond_true]

theorem anyVolume_ok {b : Bool} {p m z : Int} {l : List Int} (hl : l.length ≤ 2 ^ 30) (hp : 0 ≤ p ∧ p ≤ 2 ^ 40) (hN : 2 ^ 40 < N) :
    ∃ (b' : Bool) (s' : ByteArray) (p' m' : Int) (l' : List KeySlot), (0 ≤ p' ∧ p' ≤ 2 ^ 40) ∧ ∀ k : Bool → ByteArray → Int → Int → List KeySlot → Option R, g_spec_l01Src_anyVolume_Wr N b p m z l k = k b' s' p' m' l' := by
  obtain ⟨b1, s, p1, m1, L, hv, hp1, h1⟩ := volume_ok (R := R) N (b := b) (m := m) (z := z) hl hp hN
  obtain ⟨hs, hL, x, hx, hx1, hx2⟩ := hv
  have hL0 : 0 < L.length := by
    rw [nth_eq] at hx
    exact (List.getElem?_eq_some_iff.1 hx).1
  obtain ⟨b2, p2, m2, hp2, h2⟩ := src_one (R := R) N (n := 4) (b := b) (m := m1) (z := z) (by omega) hl hp1
  cases b2 with
  | false => exact ⟨b1, s, p2, m2, L, hp2, fun k => by unfold g_spec_l01Src_anyVolume_Wr; rw [h1, h2, Bool.not_false, cond_true]⟩
  | true =>
    obtain ⟨v3, p3, m3, a0, a1, _, hp3, h3⟩ := src_n (R := R) N (n := 6) (b := b) (m := m2) (z := z) (by omega) hl hp2
    have a2 := a1 (by omega)
    obtain ⟨t1, q1, r1, hq1, e1⟩ := src_spoil2 (R := R) N (s := s) (b := b) (m := m3) (z := z) (by omega) hl hp3
    obtain ⟨t2, q2, r2, hq2, e2⟩ := src_spoil2 (R := R) N (s := x.fKey) (b := b) (m := m3) (z := z) (by omega) hl hp3
    obtain ⟨t3, q3, r3, hq3, e3⟩ := src_spoil2 (R := R) N (s := x.fTag) (b := b) (m := m3) (z := z) (by omega) hl hp3
    obtain ⟨v4, q4, r4, c0, c1, _, hq4, e4⟩ := src_n (R := R) N (n := 3) (b := b) (m := m3) (z := z) (by omega) hl hp3
    have c2 := c1 (by omega)
    obtain ⟨y, _, hk⟩ := pick_lit (R := R) (L := [(-(1 : Int)), (4294967296 : Int), (77 : Int)]) c0 c2
    have hd : decide ((0 : Int) < (L.length : Int)) = true := decide_eq_true (by omega)
    have hbl : Nat.blt 0 L.length = true := blt_t hL0
    have hv : v3 = 0 ∨ v3 = 1 ∨ v3 = 2 ∨ v3 = 3 ∨ v3 = 4 ∨ v3 = 5 := by omega
    rcases hv with rfl | rfl | rfl | rfl | rfl | rfl
    · exact ⟨false, s, p3, m3, [], hp3, fun k => by unfold g_spec_l01Src_anyVolume_Wr; rw [h1, h2, Bool.not_true, cond_false, h3, beq_self_eq_true, cond_true]⟩
    · exact ⟨b1, t1, q1, r1, L, hq1, fun k => by unfold g_spec_l01Src_anyVolume_Wr; rw [h1, h2, Bool.not_true, cond_false, h3, show ((1 : Int) == 0) = false from rfl, cond_false, beq_self_eq_true, cond_true, e1]⟩
    · exact ⟨b1, s, q2, r2, nset L 0 ⟨x.fSalt, t2, x.fTag⟩, hq2, fun k => by unfold g_spec_l01Src_anyVolume_Wr; rw [h1, h2, Bool.not_true, cond_false, h3, show ((2 : Int) == 0) = false from rfl, cond_false, show ((2 : Int) == 1) = false from rfl, cond_false, beq_self_eq_true, cond_true, hd, cond_true, elemK_some hx, e2, cond_true, elemK_some hx, hbl, cond_true]⟩
    · exact ⟨b1, s, q3, r3, nset L 0 ⟨x.fSalt, x.fKey, t3⟩, hq3, fun k => by unfold g_spec_l01Src_anyVolume_Wr; rw [h1, h2, Bool.not_true, cond_false, h3, show ((3 : Int) == 0) = false from rfl, cond_false, show ((3 : Int) == 1) = false from rfl, cond_false, show ((3 : Int) == 2) = false from rfl, cond_false, beq_self_eq_true, cond_true, hd, cond_true, elemK_some hx, e3, cond_true, elemK_some hx, hbl, cond_true]⟩
    · exact ⟨b1, s, q4, r4, nset L 0 ⟨y, x.fKey, x.fTag⟩, hq4, fun k => by unfold g_spec_l01Src_anyVolume_Wr; rw [h1, h2, Bool.not_true, cond_false, h3, show ((4 : Int) == 0) = false from rfl, cond_false, show ((4 : Int) == 1) = false from rfl, cond_false, show ((4 : Int) == 2) = false from rfl, cond_false, show ((4 : Int) == 3) = false from rfl, cond_false, beq_self_eq_true, cond_true, e4, in_rng c0 c2, cond_true, hk, hd, cond_true, elemK_some hx, hbl, cond_true]⟩
    · exact ⟨cond (Nat.beq 3 0) b1 false, s, p3, m3, L ++ [⟨x.fSalt, x.fKey, x.fTag⟩, ⟨x.fSalt, x.fKey, x.fTag⟩, ⟨x.fSalt, x.fKey, x.fTag⟩], hp3, fun k => by
        unfold g_spec_l01Src_anyVolume_Wr
        rw [h1, h2, Bool.not_true, cond_false, h3, show ((5 : Int) == 0) = false from rfl, cond_false, show ((5 : Int) == 1) = false from rfl, cond_false, show ((5 : Int) == 2) = false from rfl, cond_false, show ((5 : Int) == 3) = false from rfl, cond_false, show ((5 : Int) == 4) = false from rfl, cond_false, beq_self_eq_true, cond_true, hd, cond_true, elemK_some hx, cond_true, elemK_some hx, cond_true, elemK_some hx, room (by simp; omega) (by simp; omega), cond_true]
        rfl⟩

theorem DrawMakeVolume_ok {b : Bool} {l : List Int} (hl : l.length ≤ 2 ^ 30) (hN : 2 ^ 40 < N) : ∃ (s s1 : ByteArray) (n : Int), ∀ k : ByteArray → ByteArray → Int → Option R, g_spec_DrawMakeVolume_r N b l k = k s s1 n := by
  obtain ⟨m, z, _, _, h0⟩ := src_of (R := R) N (b := b) hl hN
  obtain ⟨v1, p1, m1, a0, a1, _, hp1, h1⟩ := src_n (R := R) N (n := 6) (b := b) (p := 0) (m := m) (z := z) (by omega) hl (by omega)
  have a2 := a1 (by omega)
  obtain ⟨x, hx, hk⟩ := pick_lit (R := R) (L := [(16 : Int), 16, 16, 15, 17, 0]) a0 a2
  have hx0 : ∃ w : Nat, x = (w : Int) ∧ w ≤ 17 := by
    simp only [List.mem_cons, List.not_mem_nil, or_false] at hx
    exact ⟨x.toNat, by omega, by omega⟩
  obtain ⟨w, rfl, hw⟩ := hx0
  obtain ⟨s, p2, m2, _, hp2, h2⟩ := src_bytes (R := R) N (n := w) (b := b) (m := m1) (z := z) (by omega) hl hp1 hN
  obtain ⟨s1, p3, m3, hp3, h3⟩ := pass_ok (R := R) N (b := b) (m := m2) (z := z) hl hp2 hN
  obtain ⟨v4, p4, m4, _, _, _, hp4, h4⟩ := src_n (R := R) N (n := 100) (b := b) (m := m3) (z := z) (by omega) hl hp3
  obtain ⟨v5, p5, m5, c0, c1, _, hp5, h5⟩ := src_n (R := R) N (n := 5) (b := b) (m := m4) (z := z) (by omega) hl hp4
  have c2 := c1 (by omega)
  have c3 : v5 < (([v4, (-(1 : Int)), (4294967296 : Int), (4294967295 : Int), (7 : Int)].length : Nat) : Int) := by simpa using c2
  obtain ⟨x1, _, hk1⟩ := pick_lit (R := R) (L := [v4, (-(1 : Int)), (4294967296 : Int), (4294967295 : Int), (7 : Int)]) c0 c3
  exact ⟨s, s1, x1, fun k => by unfold g_spec_DrawMakeVolume_r; rw [h0, h1, in_rng a0 a2, cond_true, hk, h2, h3, h4, h5, in_rng c0 c3, cond_true, hk1]⟩

theorem DrawOpenVolume_ok {b : Bool} {l : List Int} (hl : l.length ≤ 2 ^ 30) (hN : 2 ^ 40 < N) : ∃ (b' : Bool) (s s1 : ByteArray) (L : List KeySlot), ∀ k : Bool → ByteArray → ByteArray → List KeySlot → Option R, g_spec_DrawOpenVolume_r N b l k = k b' s s1 L := by
  obtain ⟨m, z, _, _, h0⟩ := src_of (R := R) N (b := b) hl hN
  obtain ⟨b', s', p1, m1, l', hp1, h1⟩ := anyVolume_ok (R := R) N (b := b) (p := 0) (m := m) (z := z) hl (by omega) hN
  obtain ⟨s1, p2, m2, _, h2⟩ := pass_ok (R := R) N (b := b) (m := m1) (z := z) hl hp1 hN
  exact ⟨b', s', s1, l', fun k => by unfold g_spec_DrawOpenVolume_r; rw [h0, h1, h2]⟩


theorem makeF_cases (master pass : ByteArray) (n : Int) : (∃ (c : Int) (b : Bool) (s : ByteArray) (l : List KeySlot), c ≠ 0 ∧ ∀ k : Int → Bool → ByteArray → List KeySlot → Option R, makeF master pass n k = k c b s l) ∨ (master.size = 16 ∧ pass.size ≤ 4096 ∧ isW n = true) := by
  unfold makeF
  cases h1 : makeBad1 master pass with
  | true => exact .inl ⟨2, true, _, [], by omega, fun k => rfl⟩
  | false =>
    cases h2 : makeBad2 master n with
    | true => exact .inl ⟨1, true, _, [], by omega, fun k => rfl⟩
    | false =>
      refine .inr ?_
      unfold makeBad1 at h1
      unfold makeBad2 at h2
      simp only [Bool.or_eq_false_iff, bne_eq_false_iff_eq, Bool.not_eq_false'] at h1 h2
      exact ⟨by omega, longB_size h1.2, h2.2⟩

theorem law_Volumes {b b1 : Bool} {l l1 : List Int} (hN : 2 ^ 40 < N) (k : Bool → Option R) : g_laws_FnVolumes_rr N b b1 l l1 k = k true := by
  unfold g_laws_FnVolumes_rr
  by_cases h : (l.length : Int) > 1048576
  · rw [decide_eq_true h]; rfl
  by_cases h1 : (l1.length : Int) > 1048576
  · rw [decide_eq_true h1]; cases decide ((l.length : Int) > 1048576) <;> rfl
  have hl : l.length ≤ 2 ^ 30 := by omega
  have hl1 : l1.length ≤ 2 ^ 30 := by omega
  obtain ⟨ma, pa, n, hd⟩ := DrawMakeVolume_ok (R := R) N (b := b) hl hN
  obtain ⟨b2, s2, ot, l2, hd2⟩ := DrawOpenVolume_ok (R := R) N (b := b1) hl1 hN
  rw [decide_eq_false h, decide_eq_false h1, cond_false, oK_some_eq, cond_false, hd, hd2, impl_MakeVolume_eq N hN]
  rcases makeF_cases (R := R) ma pa n with ⟨c, b3, s3, l3, hc, hm⟩ | ⟨g1, g2, g3⟩
  · rw [hm, spec_MakeVolume_eq N hN, hm, bne_self_eq_false, cond_false]
    have : (c != 0) = true := by simpa using hc
    rw [this, cond_true, oK_some_eq, cond_true]
  obtain ⟨hmk, hc8, hk16, ht8⟩ := make_is (R := R) g1 g2 g3
  rw [hmk, spec_MakeVolume_eq N hN, hmk, bne_self_eq_false, cond_false, cond_false]
  by_cases ho : (ot.size : Int) > 4096
  · rw [decide_eq_true ho, cond_true, oK_some_eq, cond_true]
  rw [decide_eq_false ho, cond_false, decide_eq_false (show ¬ (pa.size : Int) > 4096 by omega), oK_some_eq, cond_false, spec_OpenVolume_eq N hN]
  have lo := longB_of (s := ot) (by omega)
  have lp := longB_of g2
  have hw9 : isW 9 = true := isW_small (by omega) (by omega)
  have sx := slot_ok lp g1 g3
  have sy := slot_ok lo g1 hw9
  cases hz : ((openR (tagOf ma ⟨[].toArray⟩) ot [addSlot pa n ma]).1 == 0) with
  | true =>
    rw [cond_true, impl_OpenVolume_r_eq N hN, spec_OpenVolume_r_eq N hN, beq_self_eq_true, decide_eq_true rfl]
    rfl
  | false =>
    have hno := openR_none lo (volBad_one hc8 sx) (by simpa using hz)
    have hx : opens (tagOf ma ⟨[].toArray⟩) ot (addSlot pa n ma) = none := by
      rw [List.findSome?_cons] at hno
      cases hq : opens (tagOf ma ⟨[].toArray⟩) ot (addSlot pa n ma) with
      | none => rfl
      | some y => rw [hq] at hno; cases hno
    have o1 : openR (tagOf ma ⟨[].toArray⟩) pa [addSlot pa n ma] = (0, ma) := openR_some lp (volBad_one hc8 sx) (by rw [List.findSome?_cons, opens_own lp g1])
    have o2 : openR (tagOf ma ⟨[].toArray⟩) ot [addSlot pa n ma, addSlot ot 9 ma] = (0, ma) := openR_some lo (volBad_two hc8 sx sy) (by rw [List.findSome?_cons, hx, List.findSome?_cons, opens_own lo g1])
    have o3 : openR (tagOf ma ⟨[].toArray⟩) ot [addSlot ot 9 ma] = (0, ma) := openR_some lo (volBad_one hc8 sy) (by rw [List.findSome?_cons, opens_own lo g1])
    have hdc : dropCode (tagOf ma ⟨[].toArray⟩) 0 [addSlot pa n ma, addSlot ot 9 ma] = 0 := by
      unfold dropCode
      rw [volBad_two hc8 sx sy]
      rfl
    rw [cond_false, impl_AddPass_eq N (l := [addSlot pa n ma]) rfl (show (1 : Nat) ≤ 2 ^ 30 by decide) hN, add_is g1 g2 g3 (by omega) hw9, impl_OpenVolume_eq N hN, o1, impl_OpenVolume_eq N hN, o2, bne_self_eq_false, cond_false, decide_eq_true rfl, Bool.not_true, cond_false, cond_false, cond_false, oK_some_eq, cond_false, impl_DropPass_eq N rfl hN, hdc, bne_self_eq_false, cond_false]
    change cond (Nat.ble 1 2) (g_impl_OpenVolume_r N false (tagOf ma ⟨[].toArray⟩) ot [addSlot ot 9 ma] _) none = _
    rw [ble_t (by omega), cond_true, impl_OpenVolume_r_eq N hN, o3]
    change cond (Nat.ble 1 2) (g_impl_OpenVolume_r N false (tagOf ma ⟨[].toArray⟩) pa [addSlot ot 9 ma] _) none = _
    rw [ble_t (by omega), cond_true, impl_OpenVolume_r_eq N hN, beq_self_eq_true, cond_true, decide_eq_true rfl, cond_true]
    change oK (cond (Nat.ble 1 2) (g_spec_OpenVolume_r N false (tagOf ma ⟨[].toArray⟩) pa [addSlot ot 9 ma] _) none) _ = _
    rw [ble_t (by omega), cond_true, spec_OpenVolume_r_eq N hN, beq_self_eq_true, decide_eq_true rfl]
    rfl

end
end Go.Sa
