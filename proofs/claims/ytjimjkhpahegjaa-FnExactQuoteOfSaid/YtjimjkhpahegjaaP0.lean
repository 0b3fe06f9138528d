import Derived.Test.YtjimjkhpahegjaaW1
set_option linter.all false
namespace Go.Sa
open Go Go.Eng
section
variable {R : Type} (N : Nat)
variable {R : Type}

@[simp] theorem impl_yin_eq (a lo hi : Int) (k : Bool → Option R) : g_impl_yin N a lo hi k = k (decide (a ≥ lo) && decide (a ≤ hi)) := by
  simp [g_impl_yin]

@[simp] theorem impl_yisWord_eq (a : Int) (k : Bool → Option R) : g_impl_yisWord N a k = k (decide (a ≥ 0) && decide (a < 4294967296)) := by
  simp [g_impl_yisWord]

@[simp] theorem spec_l01IsWord_eq (a : Int) (k : Bool → Option R) : g_spec_l01IsWord N a k = k (decide (a ≥ 0) && decide (a < 4294967296)) := by
  simp [g_spec_l01IsWord]

def word (n : Int) : Int := n % 4294967296

def putWord (n : Int) : ByteArray := toBytes [word n % 256, word n / 256 % 256, word n / 65536 % 256, word n / 16777216 % 256]

theorem putWord_size (n : Int) : (putWord n).size = 4 := toBytes_size _

theorem impl_PutWord_eq (n : Int) (k : ByteArray → Option R) : g_impl_PutWord N n k = k (putWord n) := by
  simp only [g_impl_PutWord, wu8, wu32, fdiv_lit _ (show (0 : Int) ≤ 256 by omega), fdiv_lit _ (show (0 : Int) ≤ 65536 by omega), fdiv_lit _ (show (0 : Int) ≤ 16777216 by omega), seg_all]
  rfl

theorem spec_l01Mod_eq {n m : Int} (hm : 0 < m) (hm2 : m ≤ 2 ^ 62) (k : Int → Option R) : g_spec_l01Mod N n m k = k (n % m) := by
  unfold g_spec_l01Mod
  obtain ⟨h1, h2⟩ := tmod_bound (n := n) hm
  rw [show (m == 0) = false by rw [beq_dec]; exact decide_eq_false (by omega), ← tmod_add (n := n) hm]
  by_cases h : n.tmod m < 0
  · rw [decide_eq_true h, if_pos h, w64 (by omega) (by omega)]; rfl
  · rw [decide_eq_false h, if_neg h]; rfl

theorem impl_ymod_eq {n m : Int} (hm : 0 < m) (hm2 : m ≤ 2 ^ 62) (k : Int → Option R) : g_impl_ymod N n m k = k (n % m) := by
  unfold g_impl_ymod
  obtain ⟨h1, h2⟩ := tmod_bound (n := n) hm
  rw [show (m == 0) = false by rw [beq_dec]; exact decide_eq_false (by omega), ← tmod_add (n := n) hm]
  by_cases h : n.tmod m < 0
  · rw [decide_eq_true h, if_pos h, w64 (by omega) (by omega)]; rfl
  · rw [decide_eq_false h, if_neg h]; rfl

theorem spec_Word_eq (n : Int) (k : Int → Option R) : g_spec_Word N n k = k (word n) := by
  unfold g_spec_Word
  rw [spec_l01Mod_eq N (by omega) (by omega)]
  rfl

theorem spec_PutWord_eq (n : Int) (k : ByteArray → Option R) : g_spec_PutWord N n k = k (putWord n) := by
  simp only [g_spec_PutWord, spec_Word_eq, wu8, fdiv_lit _ (show (0 : Int) ≤ 256 by omega), fdiv_lit _ (show (0 : Int) ≤ 65536 by omega), fdiv_lit _ (show (0 : Int) ≤ 16777216 by omega), seg_all]
  rfl


/-- A fold over a list, each place going on with another state. -/
theorem foldL {T S : Type} (lp : Nat → Int → S → Option R) (l : List T) (g : S → T → S) (I : Nat → S → Prop) (k : S → Option R)
    (h : ∀ f i s x, i < l.length → nth l i = some x → I i s → lp (f + 1) (i : Int) s = lp f ((i + 1 : Nat) : Int) (g s x) ∧ I (i + 1) (g s x))
    (he : ∀ f s, I l.length s → lp (f + 1) (l.length : Int) s = k s) {s : S} (hs : I 0 s) {f : Nat} (hf : l.length < f) : lp f 0 s = k (l.foldl g s) ∧ I l.length (l.foldl g s) := by
  have := fold lp l.length (fun i s => atD l i (g s) s) I k (fun f i s hi hI => by
    obtain ⟨x, hx⟩ := nth_some hi
    rw [atD_some hx]
    exact h f i s x hi hx hI) he hs hf
  rw [foldl_atD] at this
  exact this

/-- Texts, one behind the other. -/
def catB : List ByteArray → ByteArray
  | [] => ⟨[].toArray⟩
  | x :: l => x ++ catB l

theorem ba_append_empty (x : ByteArray) : x ++ (⟨[].toArray⟩ : ByteArray) = x := by
  apply ByteArray.ext
  simp

theorem join_flatten : ∀ xs : List (List UInt8), Lib.join xs [] = xs.flatten
  | [] => rfl
  | x :: r => by
    rw [Lib.join_cons, List.flatten_cons]
    unfold Lib.joinTail
    simp

theorem catB_toList : ∀ l : List ByteArray, (catB l).data.toList = (l.map (·.data.toList)).flatten
  | [] => rfl
  | x :: l => by
    simp only [catB, List.map_cons, List.flatten_cons, ← catB_toList l]
    simp

theorem joinB_cat (l : List ByteArray) : joinB l ⟨[].toArray⟩ = catB l := by
  unfold joinB
  apply ByteArray.ext
  apply Array.ext'
  show Lib.join (l.map (·.data.toList)) [] = _
  rw [join_flatten, catB_toList]

theorem joinOk_cat {l : List ByteArray} (h1 : l.length ≤ 2 ^ 40) (h2 : (catB l).size ≤ 2 ^ 40) : joinOk l ⟨[].toArray⟩ = true := by
  unfold joinOk
  have h3 : (Lib.join (l.map (·.data.toList)) (⟨[].toArray⟩ : ByteArray).data.toList).length = (catB l).size := by
    show (Lib.join (l.map (·.data.toList)) []).length = _
    rw [join_flatten, ← catB_toList]
    rfl
  rw [h3, ble_t (by omega), ble_t (by omega)]
  rfl

theorem catB_size : ∀ l : List ByteArray, (catB l).size = (l.map (·.size)).sum
  | [] => rfl
  | x :: l => by
    simp only [catB, ByteArray.size_append, List.map_cons, List.sum_cons, catB_size l]

theorem tdiv_nn {n m : Int} (h : 0 ≤ n) : n.tdiv m = n / m := Int.tdiv_eq_ediv_of_nonneg h

theorem tmod_nn {n m : Int} (h : 0 ≤ n) : n.tmod m = n % m := Int.tmod_eq_emod_of_nonneg h

/-- A list's fold that appends to a text. -/
theorem foldl_append {T : Type} (f : T → ByteArray) : ∀ (l : List T) (s : ByteArray), l.foldl (fun s x => s ++ f x) s = s ++ catB (l.map f)
  | [], s => by simp only [List.foldl_nil, List.map_nil, catB, ba_append_empty]
  | x :: l, s => by
    rw [List.foldl_cons, foldl_append f l, List.map_cons]
    simp only [catB, ByteArray.append_assoc]

def mixStep (x b : Int) : Int := (x * 65599 + b + 1) % 2147483629

def mixGo (s : ByteArray) (x : Int) : Int := (List.range s.size).foldl (fun x i => mixStep x (bt s i)) x

def mix (s : ByteArray) (n : Int) : Int := (mixGo s (n % 2147483629 + 1) * 40503 + 77) % 2147483629

theorem mix_bound (s : ByteArray) (n : Int) : 0 ≤ mix s n ∧ mix s n < 2147483629 := by unfold mix; omega

theorem mix_round {x b : Int} (hx0 : 0 ≤ x) (hx1 : x ≤ 2147483629) (hb0 : 0 ≤ b) (hb1 : b ≤ 255) :
    Int.tmod (IntKind.wrap .i64 (IntKind.wrap .i64 (IntKind.wrap .i64 (x * 65599) + IntKind.wrap .i64 b) + 1)) 2147483629 = mixStep x b := by
  rw [w64 (n := x * 65599) (by omega) (by omega), w64 (n := b) (by omega) (by omega), w64 (n := x * 65599 + b) (by omega) (by omega), w64 (by omega) (by omega), tmod_nn (by omega)]
  rfl

theorem impl_ymix_eq {s : ByteArray} {n : Int} (hs : s.size ≤ 2 ^ 40) (hN : 2 ^ 40 < N) (k : Int → Option R) : g_impl_ymix N s n k = k (mix s n) := by
  unfold g_impl_ymix
  rw [impl_ymod_eq N (by omega) (by omega)]
  have hm : 0 ≤ n % 2147483629 ∧ n % 2147483629 < 2147483629 := by omega
  rw [w64 (n := n % 2147483629 + 1) (by omega) (by omega)]
  unfold c_impl_ymix_0
  obtain ⟨h1, h2, h3⟩ := fold (fun f i x => l_impl_ymix_0 N s s.size (fun n5 => k (Int.tmod (IntKind.wrap .i64 (IntKind.wrap .i64 (n5 * 40503) + 77)) 2147483629)) f x i) s.size (fun i x => mixStep x (bt s i)) (fun _ x => 0 ≤ x ∧ x ≤ 2147483629) (fun n5 => k (Int.tmod (IntKind.wrap .i64 (IntKind.wrap .i64 (n5 * 40503) + 77)) 2147483629)) (fun f i x hi hx => by
      obtain ⟨b1, b2⟩ := bt_bound s i
      simp only [l_impl_ymix_0, s_impl_ymix_0, dec_lt hi, dec_nn, Int.toNat_natCast, wrap_next hi (by omega), Bool.and_true, cond_true, mix_round hx.1 hx.2 b1 b2]
      exact ⟨trivial, by unfold mixStep; omega⟩) (fun f x hx => by
      simp only [l_impl_ymix_0, s_impl_ymix_0, dec_nlt, cond_false]) (s := n % 2147483629 + 1) ⟨by omega, by omega⟩ (f := N) (by omega)
  refine h1.trans ?_
  rw [w64 (n := _ * 40503) (by omega) (by omega), w64 (by omega) (by omega), tmod_nn (by omega)]
  rfl

theorem spec_Mix_eq {s : ByteArray} {n : Int} (hN : 2 ^ 40 < N) (k : Int → Option R) : g_spec_Mix N s n k = k (cond (decide ((s.size : Int) > 65536)) 0 (mix s n)) := by
  unfold g_spec_Mix
  by_cases hs : (s.size : Int) > 65536
  · rw [decide_eq_true hs]; rfl
  rw [decide_eq_false hs, cond_false, cond_false, spec_l01Mod_eq N (by omega) (by omega)]
  have hm : 0 ≤ n % 2147483629 ∧ n % 2147483629 < 2147483629 := by omega
  rw [w64 (n := n % 2147483629 + 1) (by omega) (by omega)]
  unfold c_spec_Mix_0
  obtain ⟨h1, h2, h3⟩ := fold (fun f i x => l_spec_Mix_0 N s (fun n5 => k (Int.tmod (IntKind.wrap .i64 (IntKind.wrap .i64 (n5 * 40503) + 77)) 2147483629)) f x i) s.size (fun i x => mixStep x (bt s i)) (fun _ x => 0 ≤ x ∧ x ≤ 2147483629) (fun n5 => k (Int.tmod (IntKind.wrap .i64 (IntKind.wrap .i64 (n5 * 40503) + 77)) 2147483629)) (fun f i x hi hx => by
      obtain ⟨b1, b2⟩ := bt_bound s i
      simp only [l_spec_Mix_0, s_spec_Mix_0, dec_lt hi, dec_nn, Int.toNat_natCast, wrap_next hi (by omega), Bool.and_true, cond_true, mix_round hx.1 hx.2 b1 b2]
      exact ⟨trivial, by unfold mixStep; omega⟩) (fun f x hx => by
      simp only [l_spec_Mix_0, s_spec_Mix_0, dec_nlt, cond_false]) (s := n % 2147483629 + 1) ⟨by omega, by omega⟩ (f := N) (by omega)
  refine h1.trans ?_
  rw [w64 (n := _ * 40503) (by omega) (by omega), w64 (by omega) (by omega), tmod_nn (by omega)]
  rfl

theorem ofBytes_length (s : ByteArray) : (ofBytes s).length = s.size := by
  unfold ofBytes
  rw [List.length_map, Array.length_toList]
  rfl

theorem toBytes_ofBytes (s : ByteArray) : toBytes (ofBytes s) = s := by
  obtain ⟨⟨l⟩⟩ := s
  unfold toBytes ofBytes
  simp only [List.map_map]
  have : (l.map ((fun x : Int => UInt8.ofNat x.toNat) ∘ fun c : UInt8 => (c.toNat : Int))) = l := by
    rw [List.map_congr_left (g := id) (fun c _ => by simp), List.map_id]
  rw [this]

theorem ofBytes_append (s t : ByteArray) : ofBytes (s ++ t) = ofBytes s ++ ofBytes t := by
  obtain ⟨⟨a⟩⟩ := s
  obtain ⟨⟨b⟩⟩ := t
  have e : (⟨⟨a⟩⟩ ++ ⟨⟨b⟩⟩ : ByteArray).data = (⟨a⟩ ++ ⟨b⟩ : Array UInt8) := ByteArray.data_append
  unfold ofBytes
  rw [e]
  simp

def isW (x : Int) : Bool := decide (x ≥ 0) && decide (x < 4294967296)

def regsOk (l : List Int) : Bool := decide (1 ≤ l.length) && decide (l.length ≤ 8) && !(l.any fun x => !isW x)

theorem spec_l04Words_r_eq {l : List Int} {b : Bool} (hl : l.length ≤ 2 ^ 40) (hN : 2 ^ 40 < N) (k : Bool → Option R) : g_spec_l04Words_r N b (l.length : Int) l k = k (!(l.any fun x => !isW x)) := by
  unfold g_spec_l04Words_r
  rw [bne_self_eq_false, cond_false]
  unfold c_spec_l04Words_r_0
  rw [srch (l_spec_l04Words_r_0 N b l.length l (k false) (k true)) l.length (fun i => atD l i (fun x => !isW x) true) (k false) (k true) (fun f i hi => ?_) (fun f => ?_) (by omega), any_atD]
  · cases l.any (fun x => !isW x) <;> rfl
  · obtain ⟨x, hx⟩ := nth_some hi
    simp only [l_spec_l04Words_r_0, s_spec_l04Words_r_0, dec_lt hi, dec_nn, Int.toNat_natCast, elemK_some hx, wrap_next hi (by omega), Bool.and_true, cond_true, atD_some hx, spec_l01IsWord_eq]
    rfl
  · simp only [l_spec_l04Words_r_0, s_spec_l04Words_r_0, dec_nlt, cond_false]

theorem spec_l15Regs_r_eq {l : List Int} {b : Bool} (hN : 2 ^ 40 < N) (k : Bool → Option R) : g_spec_l15Regs_r N b l k = k (regsOk l) := by
  unfold g_spec_l15Regs_r regsOk
  have h1 : decide ((l.length : Int) ≥ 1) = decide (1 ≤ l.length) := decide_eq_decide.2 (by omega)
  have h2 : decide ((l.length : Int) ≤ 8) = decide (l.length ≤ 8) := decide_eq_decide.2 (by omega)
  rw [h1, h2]
  by_cases ha : 1 ≤ l.length
  · by_cases hb : l.length ≤ 8
    · rw [decide_eq_true ha, decide_eq_true hb, spec_l04Words_r_eq N (by omega) hN]; rfl
    · rw [decide_eq_true ha, decide_eq_false hb]; rfl
  · rw [decide_eq_false ha]; rfl

theorem indexFunc_regs_eq {l : List Int} {b : Bool} (hl : l.length ≤ 2 ^ 40) (hN : 2 ^ 40 < N) (k : Int → Option R) : g_slices_IndexFunc_int64_Fimpl_yregsOk_1_r N b l k = k (fstAt l.length (fun i => atD l i (fun x => !isW x) true)) := by
  unfold g_slices_IndexFunc_int64_Fimpl_yregsOk_1_r c_slices_IndexFunc_int64_Fimpl_yregsOk_1_r_0
  rw [srchI (l_slices_IndexFunc_int64_Fimpl_yregsOk_1_r_0 N b l.length l (fun n3 => k n3) (k (-1))) l.length (fun i => atD l i (fun x => !isW x) true) (fun n3 => k n3) (k (-1)) (fun f i hi => ?_) (fun f => ?_) (by omega)]
  · unfold fstAt
    split <;> rfl
  · obtain ⟨x, hx⟩ := nth_some hi
    simp only [l_slices_IndexFunc_int64_Fimpl_yregsOk_1_r_0, s_slices_IndexFunc_int64_Fimpl_yregsOk_1_r_0, dec_lt hi, dec_nn, Int.toNat_natCast, elemK_some hx, wrap_next hi (by omega), Bool.and_true, cond_true, atD_some hx, g_impl_yregsOk_1, impl_yisWord_eq]
    rfl
  · simp only [l_slices_IndexFunc_int64_Fimpl_yregsOk_1_r_0, s_slices_IndexFunc_int64_Fimpl_yregsOk_1_r_0, dec_nlt, cond_false]

theorem impl_yregsOk_r_eq {l : List Int} {b : Bool} (hN : 2 ^ 40 < N) (k : Bool → Option R) : g_impl_yregsOk_r N b l k = k (regsOk l) := by
  unfold g_impl_yregsOk_r regsOk g_slices_ContainsFunc_int64_Fimpl_yregsOk_1_r
  have h1 : decide ((l.length : Int) ≥ 1) = decide (1 ≤ l.length) := decide_eq_decide.2 (by omega)
  have h2 : decide ((l.length : Int) ≤ 8) = decide (l.length ≤ 8) := decide_eq_decide.2 (by omega)
  rw [impl_yin_eq, h1, h2]
  by_cases hb : l.length ≤ 8
  · rw [indexFunc_regs_eq N (by omega) hN]
    simp only [fstAt_nonneg, any_atD]
    cases (decide (1 ≤ l.length) && decide (l.length ≤ 8)) <;> rfl
  · rw [decide_eq_false hb, Bool.and_false, cond_false]; rfl

theorem longKey_eq {s : ByteArray} (hN : 2 ^ 40 < N) (k : Bool → Option R) : g_impl_ylongKey_w N false [s] k = k (decide ((s.size : Int) > 4096)) := by
  unfold g_impl_ylongKey_w g_slices_ContainsFunc_string_Fimpl_ylongKey_1_w g_slices_IndexFunc_string_Fimpl_ylongKey_1_w c_slices_IndexFunc_string_Fimpl_ylongKey_1_w_0
  have := srchI (l_slices_IndexFunc_string_Fimpl_ylongKey_1_w_0 N false ([s].length : Nat) [s] (fun n => k (decide (n ≥ 0))) (k (decide ((-1 : Int) ≥ 0)))) 1 (fun i => atD [s] i (fun x => decide ((x.size : Int) > 4096)) true) (fun n => k (decide (n ≥ 0))) (k (decide ((-1 : Int) ≥ 0))) (fun f i hi => by
    obtain ⟨x, hx⟩ := nth_some (l := [s]) (n := i) hi
    have hi' : i < [s].length := hi
    simp only [l_slices_IndexFunc_string_Fimpl_ylongKey_1_w_0, s_slices_IndexFunc_string_Fimpl_ylongKey_1_w_0, dec_lt hi', dec_nn, Int.toNat_natCast, elemK_some hx, wrap_next hi (by omega), Bool.and_true, cond_true, atD_some hx, g_impl_ylongKey_1]) (fun f => by
    have : decide (((1 : Nat) : Int) < (([s].length : Nat) : Int)) = false := by simp
    simp only [l_slices_IndexFunc_string_Fimpl_ylongKey_1_w_0, s_slices_IndexFunc_string_Fimpl_ylongKey_1_w_0, this, cond_false]) (f := N) (by omega)
  refine this.trans ?_
  have e : (List.range 1).find? (fun i => atD [s] i (fun x => decide ((x.size : Int) > 4096)) true) = cond (decide ((s.size : Int) > 4096)) (some 0) none := by
    have e1 : atD [s] 0 (fun x => decide ((x.size : Int) > 4096)) true = decide ((s.size : Int) > 4096) := rfl
    rw [show List.range 1 = [0] from rfl, List.find?_cons, e1]
    cases decide ((s.size : Int) > 4096) <;> rfl
  rw [e]
  cases decide ((s.size : Int) > 4096) <;> rfl

def pM : Int := 2147482763

def powGo : Nat → Int → Int → Int → Int
  | 0, _, _, a => a
  | f + 1, x, n, a => if n > 0 then powGo f (x * x % pM) (n / 2) (if n % 2 = 1 then a * x % pM else a) else a

def pow4 (n : Int) : Int := powGo 64 4 n 1

theorem powGo_stop : ∀ (f g : Nat) (x n a : Int), n < 2 ^ f → f ≤ g → powGo g x n a = powGo f x n a
  | 0, 0, _, _, _, _, _ => rfl
  | 0, g + 1, x, n, a, hn, _ => by
    have : ¬ n > 0 := by have : (2 : Int) ^ 0 = 1 := rfl; omega
    simp only [powGo, if_neg this]
  | f + 1, 0, _, _, _, _, h => by omega
  | f + 1, g + 1, x, n, a, hn, h => by
    simp only [powGo]
    split
    · refine powGo_stop f g _ _ _ ?_ (by omega)
      have : (2 : Int) ^ (f + 1) = 2 ^ f * 2 := Int.pow_succ 2 f
      omega
    · rfl

/-- What has an inverse is not zero. -/
def Inv1 (a : Int) : Prop := ∃ u, a * u % pM = 1

theorem inv1_mul {a b : Int} (ha : Inv1 a) (hb : Inv1 b) : Inv1 (a * b % pM) := by
  obtain ⟨u, hu⟩ := ha
  obtain ⟨v, hv⟩ := hb
  refine ⟨u * v, ?_⟩
  have : a * b % pM * (u * v) % pM = ((a * u % pM) * (b * v % pM)) % pM := by
    rw [Int.mul_emod, Int.emod_emod_of_dvd _ (Int.dvd_refl _), ← Int.mul_emod, ← Int.mul_emod]
    congr 1
    rw [Int.mul_assoc, Int.mul_left_comm b u v, ← Int.mul_assoc]
  rw [this, hu, hv]
  rfl

theorem powGo_unit : ∀ (f : Nat) (x n a : Int), Inv1 x → Inv1 a → Inv1 (powGo f x n a)
  | 0, _, _, _, _, h => h
  | f + 1, x, n, a, hx, ha => by
    simp only [powGo]
    split
    · refine powGo_unit f _ _ _ (inv1_mul hx hx) ?_
      split
      · exact inv1_mul ha hx
      · exact ha
    · exact ha

theorem pow4_ne (n : Int) : pow4 n ≠ 0 := fun h => by
  obtain ⟨u, hu⟩ := powGo_unit 64 4 n 1 ⟨536870691, by unfold pM; omega⟩ ⟨1, by unfold pM; omega⟩
  change pow4 n * u % pM = 1 at hu
  rw [h, Int.zero_mul] at hu
  cases hu

theorem mul_small {a b : Int} (ha0 : 0 ≤ a) (ha : a < pM) (hb0 : 0 ≤ b) (hb : b < pM) : IntKind.wrap .i64 (a * b) = a * b ∧ 0 ≤ a * b := by
  have h1 : a * b ≤ pM * pM := Int.mul_le_mul (by omega) (by omega) hb0 (by unfold pM; omega)
  have h2 : 0 ≤ a * b := Int.mul_nonneg ha0 hb0
  have h3 : pM * pM = 4611682217382114169 := by decide
  exact ⟨w64 (by omega) (by omega), h2⟩

theorem emod_pM (a : Int) : 0 ≤ a % pM ∧ a % pM < pM := by unfold pM; omega

theorem spec_l15Power_go (kN : Int → Option R) : ∀ (f g : Nat) (x n a : Int), 0 ≤ x → x < pM → 0 ≤ n → n < 2 ^ f → f ≤ 62 → 0 ≤ a → a < pM → f < g → l_spec_l15Power_0 N kN g x n a = kN (powGo f x n a)
  | f, 0, _, _, _, _, _, _, _, _, _, _, h => by omega
  | 0, g + 1, x, n, a, _, _, hn0, hn, _, _, _, _ => by
    have : ¬ n > 0 := by have : (2 : Int) ^ 0 = 1 := rfl; omega
    simp only [l_spec_l15Power_0, s_spec_l15Power_0, decide_eq_false this, cond_false, powGo]
  | f + 1, g + 1, x, n, a, hx0, hx, hn0, hn, hf, ha0, ha, hg => by
    have hp2 : (2 : Int) ^ (f + 1) = 2 ^ f * 2 := Int.pow_succ 2 f
    by_cases h : n > 0
    · have hbig : (2 : Int) ^ (f + 1) ≤ 2 ^ 62 := by
        have : (2 : Nat) ^ (f + 1) ≤ 2 ^ 62 := Nat.pow_le_pow_right (by omega) hf
        exact_mod_cast this
      have hbig2 : (2 : Int) ^ 62 = 4611686018427387904 := by decide
      obtain ⟨e1, p1⟩ := mul_small ha0 ha hx0 hx
      obtain ⟨e2, p2⟩ := mul_small hx0 hx hx0 hx
      have hm : (Int.tmod n 2 == 1) = decide (n % 2 = 1) := by rw [tmod_nn hn0]; rfl
      simp only [l_spec_l15Power_0, s_spec_l15Power_0, decide_eq_true h, cond_true, cond_somes, oK_some_eq, e1, e2, tdiv_nn hn0, hm, w64 (n := n / 2) (by omega) (by omega), powGo, if_pos h]
      rw [tmod_nn p1, tmod_nn p2]
      have e3 : cond (decide (n % 2 = 1)) (a * x % 2147482763) a = if n % 2 = 1 then a * x % pM else a := by
        by_cases h1 : n % 2 = 1
        · rw [decide_eq_true h1, if_pos h1]; rfl
        · rw [decide_eq_false h1, if_neg h1]; rfl
      rw [e3]
      refine spec_l15Power_go kN f g _ _ _ (emod_pM _).1 (emod_pM _).2 (by omega) (by omega) (by omega) ?_ ?_ (by omega)
      · split
        · exact (emod_pM _).1
        · exact ha0
      · split
        · exact (emod_pM _).2
        · exact ha
    · simp only [l_spec_l15Power_0, s_spec_l15Power_0, decide_eq_false h, cond_false, powGo, if_neg h]

theorem impl_ypower_go (kN : Int → Option R) : ∀ (f g : Nat) (x n a : Int), 0 ≤ x → x < pM → 0 ≤ n → n < 2 ^ f → f ≤ 62 → 0 ≤ a → a < pM → f < g → l_impl_ypower_0 N kN g x n a = kN (powGo f x n a)
  | f, 0, _, _, _, _, _, _, _, _, _, _, h => by omega
  | 0, g + 1, x, n, a, _, _, hn0, hn, _, _, _, _ => by
    have : ¬ n > 0 := by have : (2 : Int) ^ 0 = 1 := rfl; omega
    simp only [l_impl_ypower_0, s_impl_ypower_0, decide_eq_false this, cond_false, powGo]
  | f + 1, g + 1, x, n, a, hx0, hx, hn0, hn, hf, ha0, ha, hg => by
    have hp2 : (2 : Int) ^ (f + 1) = 2 ^ f * 2 := Int.pow_succ 2 f
    by_cases h : n > 0
    · obtain ⟨e1, p1⟩ := mul_small ha0 ha hx0 hx
      obtain ⟨e2, p2⟩ := mul_small hx0 hx hx0 hx
      have hm : IntKind.wrap .i64 (((BitVec.ofInt 64 n &&& BitVec.ofInt 64 1).toNat : Nat) : Int) = n % 2 := and_mask n 1 (by omega)
      simp only [l_impl_ypower_0, s_impl_ypower_0, decide_eq_true h, cond_true, cond_somes, oK_some_eq, e1, e2, hm, fdiv_lit n (show (0 : Int) ≤ 2 by omega), powGo, if_pos h]
      rw [tmod_nn p1, tmod_nn p2]
      have e3 : cond (n % 2 == 1) (a * x % 2147482763) a = if n % 2 = 1 then a * x % pM else a := by
        by_cases h1 : n % 2 = 1
        · rw [h1]; rfl
        · rw [if_neg h1, show (n % 2 == 1) = false from decide_eq_false h1]; rfl
      rw [e3]
      refine impl_ypower_go kN f g _ _ _ (emod_pM _).1 (emod_pM _).2 (by omega) (by omega) (by omega) ?_ ?_ (by omega)
      · split
        · exact (emod_pM _).1
        · exact ha0
      · split
        · exact (emod_pM _).2
        · exact ha
    · simp only [l_impl_ypower_0, s_impl_ypower_0, decide_eq_false h, cond_false, powGo, if_neg h]

theorem spec_l15Power_eq {n : Int} (hn0 : 0 ≤ n) (hn : n < 2 ^ 62) (hN : 2 ^ 40 < N) (k : Int → Option R) : g_spec_l15Power N 4 n k = k (pow4 n) := by
  unfold g_spec_l15Power c_spec_l15Power_0 pow4
  rw [spec_l15Power_go N k 62 N 4 n 1 (by omega) (by unfold pM; omega) hn0 hn (by omega) (by omega) (by unfold pM; omega) (by omega), powGo_stop 62 64 4 n 1 hn (by omega)]

theorem impl_ypower_eq {n : Int} (hn0 : 0 ≤ n) (hn : n < 2 ^ 62) (hN : 2 ^ 40 < N) (k : Int → Option R) : g_impl_ypower N 4 n k = k (pow4 n) := by
  unfold g_impl_ypower c_impl_ypower_0 pow4
  rw [show Int.tmod 4 2147482763 = 4 from rfl, impl_ypower_go N k 62 N 4 n 1 (by omega) (by unfold pM; omega) hn0 hn (by omega) (by omega) (by unfold pM; omega) (by omega), powGo_stop 62 64 4 n 1 hn (by omega)]

def secOk (n : Int) : Bool := decide (n ≥ 1) && decide (n ≤ 1073741380)

def publicOf (n : Int) : Int := cond (secOk n) (pow4 n) 0

theorem spec_PublicOf_eq {n : Int} (hN : 2 ^ 40 < N) (k : Int → Option R) : g_spec_PublicOf N n k = k (publicOf n) := by
  unfold g_spec_PublicOf publicOf
  have hq : (cond (decide (n < 1)) true (decide (n ≥ 1073741381))) = !secOk n := by
    unfold secOk
    rw [Bool.eq_iff_iff]; simp; omega
  rw [cond_somes, oK_some_eq, hq]
  cases h : secOk n with
  | false => rfl
  | true =>
    have : 1 ≤ n ∧ n ≤ 1073741380 := by unfold secOk at h; simpa using h
    rw [Bool.not_true, cond_false, spec_l15Power_eq N (by omega) (by omega) hN]; rfl

theorem publicOf_zero (n : Int) : (publicOf n == 0) = !secOk n := by
  unfold publicOf
  cases h : secOk n with
  | false => rfl
  | true => exact decide_eq_false (pow4_ne n)

def regsText (l : List Int) : ByteArray := catB (l.map putWord)

theorem regsText_size (l : List Int) : (regsText l).size = 4 * l.length := by
  unfold regsText
  rw [catB_size, List.map_map]
  induction l with
  | nil => rfl
  | cons x l ih => simp only [List.map_cons, List.sum_cons, List.length_cons, ih, Function.comp, putWord_size]; omega

def quoteText (n : Int) (s : ByteArray) (l : List Int) : ByteArray := catB [putWord n, regsText l, s]

theorem quoteText_size (n : Int) (s : ByteArray) (l : List Int) : (quoteText n s l).size = 4 + 4 * l.length + s.size := by
  unfold quoteText
  rw [catB_size]
  simp only [List.map_cons, List.map_nil, List.sum_cons, List.sum_nil, putWord_size, regsText_size]
  omega

theorem spec_l15All_w_eq {n : Int} {s : ByteArray} {l : List Int} {b : Bool} (hl : l.length ≤ 8) (hs : s.size ≤ 4096) (hN : 2 ^ 40 < N) (k : ByteArray → Option R) : g_spec_l15All_w N n b s l k = k (quoteText n s l) := by
  unfold g_spec_l15All_w c_spec_l15All_w_0
  rw [spec_PutWord_eq]
  obtain ⟨h1, h2⟩ := foldL (fun f i z => l_spec_l15All_w_0 N b s l (fun s5 => cond (Nat.ble (s5.size + s.size) 9223372036854775807) (k (s5 ++ s)) none) f z i) l (fun z x => z ++ putWord x) (fun i z => z.size = 4 + 4 * i) (fun s5 => cond (Nat.ble (s5.size + s.size) 9223372036854775807) (k (s5 ++ s)) none) (fun f i z x hi hx hz => by
      simp only [l_spec_l15All_w_0, s_spec_l15All_w_0, dec_lt hi, dec_nn, Int.toNat_natCast, elemK_some hx, spec_PutWord_eq, putWord_size, ble_t (show z.size + 4 ≤ 9223372036854775807 by omega), wrap_next hi (by omega), Bool.and_true, cond_true]
      exact ⟨trivial, by rw [ByteArray.size_append, putWord_size]; omega⟩) (fun f z _ => by
      simp only [l_spec_l15All_w_0, s_spec_l15All_w_0, dec_nlt, cond_false]) (s := putWord n) (putWord_size n) (f := N) (by omega)
  refine h1.trans ?_
  rw [foldl_append] at h2 ⊢
  rw [ble_t (by omega), cond_true]
  congr 1
  unfold quoteText regsText
  simp only [catB]
  rw [ba_append_empty, ByteArray.append_assoc]

theorem impl_WriteString_eq {s : ByteArray} {b : Bool} {l : List Int} (h : l.length + s.size ≤ 2 ^ 40) (k : Int → Bool → List Int → Option R) : g_strings_Builder_WriteString_Ww_v1 N s b l k = k (s.size : Int) (cond (Nat.beq s.size 0) b false) (l ++ ofBytes s) := by
  unfold g_strings_Builder_WriteString_Ww_v1
  rw [ofBytes_length, room (by omega) (by omega), cond_true]

theorem impl_WriteString_eq0 {s : ByteArray} {b : Bool} {l : List Int} (h : l.length + s.size ≤ 2 ^ 40) (k : Int → Bool → List Int → Option R) : g_strings_Builder_WriteString_Ww N s b l k = k (s.size : Int) (cond (Nat.beq s.size 0) b false) (l ++ ofBytes s) := by
  unfold g_strings_Builder_WriteString_Ww
  rw [ofBytes_length, room (by omega) (by omega), cond_true]

theorem impl_yregsText_eq {l : List Int} {b : Bool} (hl : l.length ≤ 8) (hN : 2 ^ 40 < N) (k : ByteArray → List Int → Option R) : g_impl_yregsText_w N b l k = k (regsText l) l := by
  obtain ⟨M, rfl⟩ : ∃ M, N = M + 1 := ⟨N - 1, by omega⟩
  unfold g_impl_yregsText_w c_impl_yregsText_w_0b1
  cases l with
  | nil => rfl
  | cons x l =>
    have hi : (0 : Nat) < (x :: l).length := by simp
    obtain ⟨l0, hl0⟩ : ∃ l0, l0 = x :: l := ⟨_, rfl⟩
    have hx : nth l0 0 = some x := by rw [hl0]; rfl
    rw [← hl0] at hl hi ⊢
    have d1 : decide ((0 : Int) < (l0.length : Int)) = true := decide_eq_true (by omega)
    have d2 : IntKind.wrap .i64 ((0 : Int) + 1) = ((1 : Nat) : Int) := by rw [w64 (by omega) (by omega)]; rfl
    simp only [l_impl_yregsText_w_0b1, s_impl_yregsText_w_0b1, d1, d2, decide_true, Int.toNat_zero, Bool.and_self, elemK_some hx, Int.le_refl, cond_true, impl_PutWord_eq]
    rw [impl_WriteString_eq0 (M + 1) (by rw [putWord_size]; simp)]
    have hb0 : cond (Nat.beq (putWord x).size 0) true false = false := by rw [putWord_size]; rfl
    rw [hb0]
    let kN : List Int → Bool → List Int → Option R := fun l7 b7 l8 => cond b7 (k ⟨[].toArray⟩ l7) (cond (Nat.blt 0 l8.length && Nat.ble l8.length 9223372036854775807) (k (toBytes l8) l7) none)
    have key : ∀ d i f z, i + d = l0.length → d < f → z.length = 4 * i → 0 < i → l_impl_yregsText_w_0 (M + 1) b l0.length l0 kN f (i : Int) false z = k (toBytes (z ++ ofBytes (regsText (l0.drop i)))) l0 := by
      intro d
      induction d with
      | zero =>
        intro i f z hid hf hz hi0
        obtain ⟨f, rfl⟩ : ∃ j, f = j + 1 := ⟨f - 1, by omega⟩
        have : i = l0.length := by omega
        subst this
        simp only [l_impl_yregsText_w_0, s_impl_yregsText_w_0, dec_nlt, cond_false]
        show cond _ _ _ = _
        rw [cond_false, blt_t (by omega), ble_t (by omega), List.drop_of_length_le (Nat.le_refl _)]
        show k (toBytes z) l0 = k (toBytes (z ++ [])) l0
        rw [List.append_nil]
      | succ d ih =>
        intro i f z hid hf hz hi0
        obtain ⟨f, rfl⟩ : ∃ j, f = j + 1 := ⟨f - 1, by omega⟩
        have hil : i < l0.length := by omega
        obtain ⟨y, hy⟩ := nth_some hil
        simp only [l_impl_yregsText_w_0, s_impl_yregsText_w_0, dec_lt hil, dec_nn, Int.toNat_natCast, elemK_some hy, wrap_next hil (by omega), Bool.and_true, cond_true, impl_PutWord_eq]
        rw [impl_WriteString_eq (M + 1) (by rw [putWord_size]; omega), cond_same, ih (i + 1) f _ (by omega) (by omega) (by rw [List.length_append, ofBytes_length, putWord_size]; omega) (by omega)]
        have hdr : l0.drop i = y :: l0.drop (i + 1) := by
          rw [nth_eq] at hy
          obtain ⟨h1, h2⟩ := List.getElem?_eq_some_iff.1 hy
          rw [← h2]; exact List.drop_eq_getElem_cons h1
        rw [hdr, List.append_assoc, ← ofBytes_append]
        rfl
    have h1 := key (l0.length - 1) 1 M ([] ++ ofBytes (putWord x)) (by omega) (by omega) (by rw [List.length_append, ofBytes_length, putWord_size]; rfl) (by omega)
    refine h1.trans ?_
    have hdr : l0.drop 1 = l := by rw [hl0]; rfl
    rw [hdr, List.nil_append, ← ofBytes_append, toBytes_ofBytes, hl0]
    rfl

theorem impl_yjoinw_eq {l : List ByteArray} {b : Bool} (h1 : l.length ≤ 2 ^ 40) (h2 : (catB l).size ≤ 2 ^ 40) (k : ByteArray → Option R) : g_impl_yjoin_w N b l k = k (catB l) := by
  unfold g_impl_yjoin_w
  rw [joinOk_cat h1 h2, cond_true, joinB_cat]

def qR (n : Int) (s : ByteArray) (l : List Int) : Int := 1 + mix (quoteText n s l) 41 % 1073741380

def qE (n : Int) (s : ByteArray) (l : List Int) : Int := mix (quoteText (pow4 (qR n s l)) s l) 42 % 1073741381

def quoteBad (n : Int) (s : ByteArray) (l : List Int) : Bool := !secOk n || (decide ((s.size : Int) > 4096) || !regsOk l)

def quoteS (n : Int) (s : ByteArray) (l : List Int) : Int := (qR n s l + qE n s l * n) % 1073741381

theorem qR_bound (n : Int) (s : ByteArray) (l : List Int) : 1 ≤ qR n s l ∧ qR n s l ≤ 1073741380 := by unfold qR; omega

theorem qE_bound (n : Int) (s : ByteArray) (l : List Int) : 0 ≤ qE n s l ∧ qE n s l ≤ 1073741380 := by unfold qE; omega

theorem quoteBad_facts {n : Int} {s : ByteArray} {l : List Int} (h : quoteBad n s l = false) : 1 ≤ n ∧ n ≤ 1073741380 ∧ s.size ≤ 4096 ∧ l.length ≤ 8 := by
  unfold quoteBad secOk regsOk at h
  simp at h
  omega

theorem mul_q {a n : Int} (h0 : 0 ≤ a) (h1 : a ≤ 1073741380) (g0 : 1 ≤ n) (g1 : n ≤ 1073741380) : 0 ≤ a * n ∧ a * n ≤ 1073741380 * 1073741380 :=
  ⟨Int.mul_nonneg h0 (by omega), Int.mul_le_mul h1 g1 (by omega) (by omega)⟩

theorem spec_QuoteOf_eq {n : Int} {s : ByteArray} {l : List Int} {b : Bool} (hN : 2 ^ 40 < N) (k : Int → Int → Option R) : g_spec_QuoteOf_w N n s b l k = cond (quoteBad n s l) (k 0 0) (k (pow4 (qR n s l)) (quoteS n s l)) := by
  unfold g_spec_QuoteOf_w
  simp only [spec_PublicOf_eq N hN, publicOf_zero, spec_l15Regs_r_eq N hN, cond_somes, oK_some_eq, Bool.cond_true_left]
  change cond (quoteBad n s l) _ _ = _
  cases hb : quoteBad n s l with
  | true => rfl
  | false =>
    obtain ⟨g0, g1, hs, hl⟩ := quoteBad_facts hb
    simp only [cond_false]
    have ht : ∀ m, decide (((quoteText m s l).size : Int) > 65536) = false := fun m => decide_eq_false (by rw [quoteText_size]; omega)
    rw [spec_l15All_w_eq N hl hs hN, spec_Mix_eq N hN, ht, cond_false]
    obtain ⟨m0, m1⟩ := mix_bound (quoteText n s l) 41
    rw [tmod_nn m0, w64 (n := 1 + _ % 1073741380) (by omega) (by omega)]
    change g_spec_l15Power N 4 (qR n s l) _ = _
    obtain ⟨r0, r1⟩ := qR_bound n s l
    rw [spec_l15Power_eq N (by omega) (by omega) hN, spec_l15All_w_eq N hl hs hN, spec_Mix_eq N hN, ht, cond_false]
    obtain ⟨m2, m3⟩ := mix_bound (quoteText (pow4 (qR n s l)) s l) 42
    rw [tmod_nn m2]
    change k _ (Int.tmod (IntKind.wrap .i64 (qR n s l + Int.tmod (IntKind.wrap .i64 (qE n s l * n)) 1073741381)) 1073741381) = _
    obtain ⟨e0, e1⟩ := qE_bound n s l
    obtain ⟨p0, p1⟩ := mul_q e0 e1 g0 g1
    rw [w64 (n := qE n s l * n) (by omega) (by omega), tmod_nn p0, w64 (by omega) (by omega), tmod_nn (by omega)]
    unfold quoteS
    congr 1
    omega

theorem impl_QuoteOf_eq {n : Int} {s : ByteArray} {l : List Int} {b : Bool} (hN : 2 ^ 40 < N) (k : Int → Int → List Int → Option R) : g_impl_QuoteOf_w N n s b l k = cond (quoteBad n s l) (k 0 0 l) (k (pow4 (qR n s l)) (quoteS n s l) l) := by
  unfold g_impl_QuoteOf_w g_impl_ysecretOk
  simp only [impl_yin_eq, longKey_eq N hN, impl_yregsOk_r_eq N hN, cond_somes, oK_some_eq, Bool.cond_true_left]
  change cond (quoteBad n s l) _ _ = _
  cases hb : quoteBad n s l with
  | true => rfl
  | false =>
    obtain ⟨g0, g1, hs, hl⟩ := quoteBad_facts hb
    simp only [cond_false]
    have hq : ∀ m, (catB [putWord m, regsText l, s]).size ≤ 2 ^ 40 := fun m => by
      have := quoteText_size m s l
      unfold quoteText at this
      omega
    rw [impl_PutWord_eq, impl_yregsText_eq N hl hN, impl_yjoinw_eq N (by simp) (hq n)]
    change g_impl_ymix N (quoteText n s l) 41 _ = _
    rw [impl_ymix_eq N (by rw [quoteText_size]; omega) hN]
    obtain ⟨m0, m1⟩ := mix_bound (quoteText n s l) 41
    rw [tmod_nn m0, w64 (n := 1 + _ % 1073741380) (by omega) (by omega)]
    change g_impl_ypower N 4 (qR n s l) _ = _
    obtain ⟨r0, r1⟩ := qR_bound n s l
    rw [impl_ypower_eq N (by omega) (by omega) hN]
    unfold g_impl_yquoteE_w
    rw [impl_PutWord_eq, impl_yregsText_eq N hl hN, impl_yjoinw_eq N (by simp) (hq _)]
    change g_impl_ymix N (quoteText (pow4 (qR n s l)) s l) 42 _ = _
    rw [impl_ymix_eq N (by rw [quoteText_size]; omega) hN]
    obtain ⟨m2, m3⟩ := mix_bound (quoteText (pow4 (qR n s l)) s l) 42
    rw [tmod_nn m2]
    change k _ (Int.tmod (IntKind.wrap .i64 (qR n s l + IntKind.wrap .i64 (qE n s l * n))) 1073741381) l = _
    obtain ⟨e0, e1⟩ := qE_bound n s l
    obtain ⟨p0, p1⟩ := mul_q e0 e1 g0 g1
    rw [w64 (n := qE n s l * n) (by omega) (by omega), w64 (by omega) (by omega), tmod_nn (by omega)]
    rfl

theorem eqQuote_self (n m : Int) (k : Bool → Option R) : g_laws_eqQuote N n m n m k = k true := by
  unfold g_laws_eqQuote
  rw [bne_self_eq_false, bne_self_eq_false]; rfl

theorem laws_toInt64S_r_eq {l : List Int} {b : Bool} (hl : l.length ≤ 2 ^ 40) (hN : 2 ^ 40 < N) (k : List Int → Option R) : g_laws_toInt64S_r N b l k = k l := by
  unfold g_laws_toInt64S_r
  rw [Int.toNat_natCast, room (by omega) (by omega), dec_self]
  unfold c_laws_toInt64S_r_0
  refine (copyl (l_laws_toInt64S_r_0 N b false l (fun l4 => k l4)) l (fun x => x) k (fun f i ys x hi hy hx => ?_) (fun f ys hy => ?_) (by simp) (by omega)).trans (by rw [List.map_id'])
  · obtain ⟨y, hy1⟩ := nth_some (l := ys) (n := i) (by omega)
    simp only [l_laws_toInt64S_r_0, s_laws_toInt64S_r_0, dec_lt hi, dec_nn, Int.toNat_natCast, elemK_some hx, elemK_some hy1, dec_lt (show i < ys.length by omega), blt_t (show i < ys.length by omega), wrap_next hi (by omega), Bool.and_true, cond_true]
  · simp only [l_laws_toInt64S_r_0, s_laws_toInt64S_r_0, dec_nlt, cond_false]

theorem laws_eqInt64S_ww_eq {l m : List Int} {b b1 : Bool} (hl : l.length ≤ 2 ^ 40) (hN : 2 ^ 40 < N) (k : Bool → Option R) : g_laws_eqInt64S_ww N b b1 l m k = k (decide (l = m)) := by
  unfold g_laws_eqInt64S_ww
  by_cases h : l.length = m.length
  · rw [show ((l.length : Int) != (m.length : Int)) = false by simp [h]]
    unfold c_laws_eqInt64S_ww_0
    refine (eql (l_laws_eqInt64S_ww_0 N b b1 l m (k false) (k true)) l m h (k false) (k true) (fun f i x y hi hx hy => ?_) (fun f => ?_) (by omega)).trans ?_
    · simp only [l_laws_eqInt64S_ww_0, s_laws_eqInt64S_ww_0, dec_lt hi, dec_nn, Int.toNat_natCast, elemK_some hx, elemK_some hy, dec_lt (show i < m.length by omega), wrap_next hi (by omega), Bool.and_true, cond_true, bne_dec]
    · simp only [l_laws_eqInt64S_ww_0, s_laws_eqInt64S_ww_0, dec_nlt, cond_false]
    · cases decide (l = m) <;> rfl
  · rw [show ((l.length : Int) != (m.length : Int)) = true by simp; omega]
    rw [decide_eq_false (fun e => h (by rw [e]))]
    rfl

theorem law_QuoteOf {n : Int} {s : ByteArray} {l : List Int} {b : Bool} (hN : 2 ^ 40 < N) (k : Bool → Option R) : g_laws_FnExactQuoteOf_r N n s b l k = k true := by
  unfold g_laws_FnExactQuoteOf_r
  by_cases hs : (s.size : Int) > 1048576
  · rw [decide_eq_true hs]; rfl
  by_cases hl : (l.length : Int) > 1048576
  · rw [decide_eq_false hs, decide_eq_true hl]; rfl
  rw [decide_eq_false hs, decide_eq_false hl, cond_false, cond_false]
  have hl' : l.length ≤ 2 ^ 40 := by omega
  rw [laws_toInt64S_r_eq N hl' hN, spec_QuoteOf_eq N hN]
  cases hb : quoteBad n s l <;>
    simp only [laws_toInt64S_r_eq N hl' hN, impl_QuoteOf_eq N hN, hb, cond_true, cond_false, eqQuote_self, laws_eqInt64S_ww_eq N hl' hN, decide_true, Bool.not_true]

end
end Go.Sa
