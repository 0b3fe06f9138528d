import Derived.Test.YtjimjkhpahegjaaW0
set_option linter.all false
namespace Go.Sa
open Go Go.Eng
section
variable {R : Type} (N : Nat)
variable {R : Type}

@[simp] theorem impl_yin_eq (a lo hi : Int) (k : Bool → Option R) : g_impl_yin N a lo hi k = k (decide (a ≥ lo) && decide (a ≤ hi)) := by
  simp [g_impl_yin]

@[simp] theorem impl_yisWord_eq (a : Int) (k : Bool → Option R) : g_impl_yisWord N a k = k (decide (a ≥ 0) && decide (a < 4294967296)) := by
  simp [g_impl_yisWord]

@[simp] theorem spec_l01IsWord_eq (a : Int) (k : Bool → Option R) : g_spec_l01IsWord N a k = k (decide (a ≥ 0) && decide (a < 4294967296)) := by
  simp [g_spec_l01IsWord]

def word (n : Int) : Int := n % 4294967296

def putWord (n : Int) : ByteArray := toBytes [word n % 256, word n / 256 % 256, word n / 65536 % 256, word n / 16777216 % 256]

theorem putWord_size (n : Int) : (putWord n).size = 4 := toBytes_size _

theorem impl_PutWord_eq (n : Int) (k : ByteArray → Option R) : g_impl_PutWord N n k = k (putWord n) := by
  simp only [g_impl_PutWord, wu8, wu32, fdiv_lit _ (show (0 : Int) ≤ 256 by omega), fdiv_lit _ (show (0 : Int) ≤ 65536 by omega), fdiv_lit _ (show (0 : Int) ≤ 16777216 by omega), seg_all]
  rfl

theorem spec_l01Mod_eq {n m : Int} (hm : 0 < m) (hm2 : m ≤ 2 ^ 62) (k : Int → Option R) : g_spec_l01Mod N n m k = k (n % m) := by
  unfold g_spec_l01Mod
  obtain ⟨h1, h2⟩ := tmod_bound (n := n) hm
  rw [show (m == 0) = false by rw [beq_dec]; exact decide_eq_false (by omega), ← tmod_add (n := n) hm]
  by_cases h : n.tmod m < 0
  · rw [decide_eq_true h, if_pos h, w64 (by omega) (by omega)]; rfl
  · rw [decide_eq_false h, if_neg h]; rfl

theorem impl_ymod_eq {n m : Int} (hm : 0 < m) (hm2 : m ≤ 2 ^ 62) (k : Int → Option R) : g_impl_ymod N n m k = k (n % m) := by
  unfold g_impl_ymod
  obtain ⟨h1, h2⟩ := tmod_bound (n := n) hm
  rw [show (m == 0) = false by rw [beq_dec]; exact decide_eq_false (by omega), ← tmod_add (n := n) hm]
  by_cases h : n.tmod m < 0
  · rw [decide_eq_true h, if_pos h, w64 (by omega) (by omega)]; rfl
  · rw [decide_eq_false h, if_neg h]; rfl

theorem spec_Word_eq (n : Int) (k : Int → Option R) : g_spec_Word N n k = k (word n) := by
  unfold g_spec_Word
  rw [spec_l01Mod_eq N (by omega) (by omega)]
  rfl

theorem spec_PutWord_eq (n : Int) (k : ByteArray → Option R) : g_spec_PutWord N n k = k (putWord n) := by
  simp only [g_spec_PutWord, spec_Word_eq, wu8, fdiv_lit _ (show (0 : Int) ≤ 256 by omega), fdiv_lit _ (show (0 : Int) ≤ 65536 by omega), fdiv_lit _ (show (0 : Int) ≤ 16777216 by omega), seg_all]
  rfl


/-- Texts, one behind the other. -/
def catB : List ByteArray → ByteArray
  | [] => ⟨[].toArray⟩
  | x :: l => x ++ catB l

theorem ba_append_empty (x : ByteArray) : x ++ (⟨[].toArray⟩ : ByteArray) = x := by
  apply ByteArray.ext
  simp

theorem join_flatten : ∀ xs : List (List UInt8), Lib.join xs [] = xs.flatten
  | [] => rfl
  | x :: r => by
    rw [Lib.join_cons, List.flatten_cons]
    unfold Lib.joinTail
    simp

theorem catB_toList : ∀ l : List ByteArray, (catB l).data.toList = (l.map (·.data.toList)).flatten
  | [] => rfl
  | x :: l => by
    simp only [catB, List.map_cons, List.flatten_cons, ← catB_toList l]
    simp

theorem joinB_cat (l : List ByteArray) : joinB l ⟨[].toArray⟩ = catB l := by
  unfold joinB
  apply ByteArray.ext
  apply Array.ext'
  show Lib.join (l.map (·.data.toList)) [] = _
  rw [join_flatten, catB_toList]

theorem joinOk_cat {l : List ByteArray} (h1 : l.length ≤ 2 ^ 40) (h2 : (catB l).size ≤ 2 ^ 40) : joinOk l ⟨[].toArray⟩ = true := by
  unfold joinOk
  have h3 : (Lib.join (l.map (·.data.toList)) (⟨[].toArray⟩ : ByteArray).data.toList).length = (catB l).size := by
    show (Lib.join (l.map (·.data.toList)) []).length = _
    rw [join_flatten, ← catB_toList]
    rfl
  rw [h3, ble_t (by omega), ble_t (by omega)]
  rfl

theorem catB_size : ∀ l : List ByteArray, (catB l).size = (l.map (·.size)).sum
  | [] => rfl
  | x :: l => by
    simp only [catB, ByteArray.size_append, List.map_cons, List.sum_cons, catB_size l]

theorem tmod_nn {n m : Int} (h : 0 ≤ n) : n.tmod m = n % m := Int.tmod_eq_emod_of_nonneg h

theorem impl_yjoin_eq {l : List ByteArray} {b : Bool} (h1 : l.length ≤ 2 ^ 40) (h2 : (catB l).size ≤ 2 ^ 40) (k : ByteArray → Option R) : g_impl_yjoin_r N b l k = k (catB l) := by
  unfold g_impl_yjoin_r
  rw [joinOk_cat h1 h2, cond_true, joinB_cat]

def mixStep (x b : Int) : Int := (x * 65599 + b + 1) % 2147483629

def mixGo (s : ByteArray) (x : Int) : Int := (List.range s.size).foldl (fun x i => mixStep x (bt s i)) x

def mix (s : ByteArray) (n : Int) : Int := (mixGo s (n % 2147483629 + 1) * 40503 + 77) % 2147483629

theorem mix_round {x b : Int} (hx0 : 0 ≤ x) (hx1 : x ≤ 2147483629) (hb0 : 0 ≤ b) (hb1 : b ≤ 255) :
    Int.tmod (IntKind.wrap .i64 (IntKind.wrap .i64 (IntKind.wrap .i64 (x * 65599) + IntKind.wrap .i64 b) + 1)) 2147483629 = mixStep x b := by
  rw [w64 (n := x * 65599) (by omega) (by omega), w64 (n := b) (by omega) (by omega), w64 (n := x * 65599 + b) (by omega) (by omega), w64 (by omega) (by omega), tmod_nn (by omega)]
  rfl

theorem impl_ymix_eq {s : ByteArray} {n : Int} (hs : s.size ≤ 2 ^ 40) (hN : 2 ^ 40 < N) (k : Int → Option R) : g_impl_ymix N s n k = k (mix s n) := by
  unfold g_impl_ymix
  rw [impl_ymod_eq N (by omega) (by omega)]
  have hm : 0 ≤ n % 2147483629 ∧ n % 2147483629 < 2147483629 := by omega
  rw [w64 (n := n % 2147483629 + 1) (by omega) (by omega)]
  unfold c_impl_ymix_0
  obtain ⟨h1, h2, h3⟩ := fold (fun f i x => l_impl_ymix_0 N s s.size (fun n5 => k (Int.tmod (IntKind.wrap .i64 (IntKind.wrap .i64 (n5 * 40503) + 77)) 2147483629)) f x i) s.size (fun i x => mixStep x (bt s i)) (fun _ x => 0 ≤ x ∧ x ≤ 2147483629) (fun n5 => k (Int.tmod (IntKind.wrap .i64 (IntKind.wrap .i64 (n5 * 40503) + 77)) 2147483629)) (fun f i x hi hx => by
      obtain ⟨b1, b2⟩ := bt_bound s i
      simp only [l_impl_ymix_0, s_impl_ymix_0, dec_lt hi, dec_nn, Int.toNat_natCast, wrap_next hi (by omega), Bool.and_true, cond_true, mix_round hx.1 hx.2 b1 b2]
      exact ⟨trivial, by unfold mixStep; omega⟩) (fun f x hx => by
      simp only [l_impl_ymix_0, s_impl_ymix_0, dec_nlt, cond_false]) (s := n % 2147483629 + 1) ⟨by omega, by omega⟩ (f := N) (by omega)
  refine h1.trans ?_
  rw [w64 (n := _ * 40503) (by omega) (by omega), w64 (by omega) (by omega), tmod_nn (by omega)]
  rfl

theorem spec_Mix_eq {s : ByteArray} {n : Int} (hN : 2 ^ 40 < N) (k : Int → Option R) : g_spec_Mix N s n k = k (cond (decide ((s.size : Int) > 65536)) 0 (mix s n)) := by
  unfold g_spec_Mix
  by_cases hs : (s.size : Int) > 65536
  · rw [decide_eq_true hs]; rfl
  rw [decide_eq_false hs, cond_false, cond_false, spec_l01Mod_eq N (by omega) (by omega)]
  have hm : 0 ≤ n % 2147483629 ∧ n % 2147483629 < 2147483629 := by omega
  rw [w64 (n := n % 2147483629 + 1) (by omega) (by omega)]
  unfold c_spec_Mix_0
  obtain ⟨h1, h2, h3⟩ := fold (fun f i x => l_spec_Mix_0 N s (fun n5 => k (Int.tmod (IntKind.wrap .i64 (IntKind.wrap .i64 (n5 * 40503) + 77)) 2147483629)) f x i) s.size (fun i x => mixStep x (bt s i)) (fun _ x => 0 ≤ x ∧ x ≤ 2147483629) (fun n5 => k (Int.tmod (IntKind.wrap .i64 (IntKind.wrap .i64 (n5 * 40503) + 77)) 2147483629)) (fun f i x hi hx => by
      obtain ⟨b1, b2⟩ := bt_bound s i
      simp only [l_spec_Mix_0, s_spec_Mix_0, dec_lt hi, dec_nn, Int.toNat_natCast, wrap_next hi (by omega), Bool.and_true, cond_true, mix_round hx.1 hx.2 b1 b2]
      exact ⟨trivial, by unfold mixStep; omega⟩) (fun f x hx => by
      simp only [l_spec_Mix_0, s_spec_Mix_0, dec_nlt, cond_false]) (s := n % 2147483629 + 1) ⟨by omega, by omega⟩ (f := N) (by omega)
  refine h1.trans ?_
  rw [w64 (n := _ * 40503) (by omega) (by omega), w64 (by omega) (by omega), tmod_nn (by omega)]
  rfl

def byteAt (n : Int) (i : Nat) : Int := IntKind.wrap .u8 (n / 2 ^ (8 * i))

def bytesOf (n : Int) (m : Nat) : ByteArray := toBytes ((List.range m).map (byteAt n))

theorem bytesOf_size (n : Int) (m : Nat) : (bytesOf n m).size = m := by
  unfold bytesOf
  rw [toBytes_size, List.length_map, List.length_range]

theorem nth_range {m i x : Nat} (h : nth (List.range m) i = some x) : x = i := by
  rw [nth_eq] at h
  have := List.getElem?_eq_some_iff.1 h
  obtain ⟨hi, e⟩ := this
  simpa using e.symm

theorem pow_min {i : Nat} (h : i < 8) : (2 : Int) ^ (Min.min (8 * i) 64) = 2 ^ (8 * i) := by rw [Nat.min_eq_left (by omega)]

theorem impl_ybytesOf_eq {n : Int} {m : Nat} (hm : m ≤ 8) (hN : 2 ^ 40 < N) (k : ByteArray → Option R) : g_impl_ybytesOf N n (m : Int) k = k (bytesOf n m) := by
  unfold g_impl_ybytesOf
  rw [dec_self, dec_nn, Int.toNat_natCast, room (by omega) (by omega)]
  simp only [Bool.and_true, cond_true, List.length_replicate]
  unfold c_impl_ybytesOf_0
  have h := copyl (l_impl_ybytesOf_0 N n false m (fun l1 => cond (Nat.ble (0 + l1.length) l1.length) (k (toBytes (seg l1 0 l1.length))) none)) (List.range m) (byteAt n) (fun l1 => cond (Nat.ble (0 + l1.length) l1.length) (k (toBytes (seg l1 0 l1.length))) none) (fun f i ys x hi hy hx => by
    have hxi := nth_range hx
    subst hxi
    rw [List.length_range] at hi hy
    obtain ⟨y, hy1⟩ := nth_some (l := ys) (n := x) (by omega)
    have h8 : IntKind.wrap .i64 (8 * (x : Int)) = ((8 * x : Nat) : Int) := by rw [w64 (by omega) (by omega)]; omega
    simp only [l_impl_ybytesOf_0, s_impl_ybytesOf_0, dec_lt hi, dec_nn, Int.toNat_natCast, h8, decide_eq_false (show ¬ (((8 * x : Nat) : Int) < 0) by omega), dec_lt (show x < ys.length by omega), elemK_some hy1, blt_t (show x < ys.length by omega), wrap_next hi (by omega), Bool.and_true, cond_true, cond_false, pow_min (show x < 8 by omega)]
    rw [fdiv_lit _ (Int.le_of_lt (Int.pow_pos (by omega)))]
    rfl) (fun f ys hy => by
    rw [List.length_range] at *
    simp only [l_impl_ybytesOf_0, s_impl_ybytesOf_0, dec_nlt, cond_false]) (ys := List.replicate m 0) (by simp) (f := N) (by rw [List.length_range]; omega)
  refine h.trans ?_
  rw [Nat.zero_add, ble_t (Nat.le_refl _), cond_true, seg_all]
  rfl

theorem spec_l16Bytes_eq {n : Int} {m : Nat} (hm : m ≤ 8) (hN : 2 ^ 40 < N) (k : ByteArray → Option R) : g_spec_l16Bytes N n (m : Int) k = k (bytesOf n m) := by
  unfold g_spec_l16Bytes c_spec_l16Bytes_0
  obtain ⟨h1, h2⟩ := fold (fun f i s => l_spec_l16Bytes_0 N n m (fun b1 l1 => cond (Nat.ble (0 + l1.length) l1.length) (k (toBytes (seg l1 0 l1.length))) none) f false i s) m (fun i s => s ++ [byteAt n i]) (fun i s => s = (List.range i).map (byteAt n)) (fun l1 => cond (Nat.ble (0 + l1.length) l1.length) (k (toBytes (seg l1 0 l1.length))) none) (fun f i s hi hs => by
      have h8 : IntKind.wrap .u64 (IntKind.wrap .i64 (8 * (i : Int))) = ((8 * i : Nat) : Int) := by rw [w64 (by omega) (by omega), wu64 (by omega) (by omega)]; omega
      have hsl : s.length = i := by rw [hs, List.length_map, List.length_range]
      simp only [l_spec_l16Bytes_0, s_spec_l16Bytes_0, dec_lt hi, h8, Int.toNat_natCast, decide_eq_false (show ¬ (((8 * i : Nat) : Int) < 0) by omega), wrap_next hi (by omega), cond_true, cond_false, pow_min (show i < 8 by omega), List.length_singleton, room (show (s.length + 1) * 1 ≤ 2 ^ 47 by omega) (by omega)]
      rw [fdiv_lit _ (Int.le_of_lt (Int.pow_pos (by omega)))]
      refine ⟨rfl, ?_⟩
      rw [List.range_succ, List.map_append, ← hs]; rfl) (fun f s _ => by
      simp only [l_spec_l16Bytes_0, s_spec_l16Bytes_0, dec_nlt, cond_false]) (s := []) rfl (f := N) (by omega)
  refine h1.trans ?_
  rw [h2, Nat.zero_add, ble_t (Nat.le_refl _), cond_true, seg_all]
  rfl


def frBad (n n1 n2 : Int) (s : ByteArray) : Bool := !(decide (0 ≤ n) && decide (n ≤ 281474976710654) && (decide (0 ≤ n1) && decide (n1 ≤ 281474976710655)) && (decide (0 ≤ n2) && decide (n2 ≤ 4095)) && decide ((s.size : Int) ≤ 1500))

theorem impl_FrameFault_eq (n n1 n2 : Int) (s : ByteArray) (k : Int → Option R) : g_impl_FrameFault N n n1 n2 s k = k (cond (frBad n n1 n2 s) 1 0) := by
  unfold g_impl_FrameFault g_impl_yaddrOk
  simp only [impl_yin_eq, cond_somes, oK_some_eq]
  rw [cond_app]
  congr 2
  unfold frBad
  rw [Bool.eq_iff_iff]
  simp
  omega

theorem spec_FrameFault_eq (n n1 n2 : Int) (s : ByteArray) (k : Int → Option R) : g_spec_FrameFault N n n1 n2 s k = k (cond (frBad n n1 n2 s) 1 0) := by
  unfold g_spec_FrameFault
  simp only [cond_somes, oK_some_eq]
  rw [cond_app]
  congr 2
  unfold frBad
  rw [Bool.eq_iff_iff]
  simp
  omega

def wrapText (n n1 n2 : Int) (s : ByteArray) (n3 n4 n5 : Int) : ByteArray :=
  catB [⟨[(78 : UInt8), (86 : UInt8)].toArray⟩, bytesOf n3 3, putWord n4, putWord n5, bytesOf n 6, bytesOf n1 6, bytesOf n2 2, bytesOf (s.size : Int) 2, s]

theorem wrapText_size (n n1 n2 : Int) (s : ByteArray) (n3 n4 n5 : Int) : (wrapText n n1 n2 s n3 n4 n5).size = 29 + s.size := by
  unfold wrapText
  rw [catB_size]
  simp only [List.map_cons, List.map_nil, putWord_size, bytesOf_size, List.sum_cons, List.sum_nil]
  show 2 + _ = _
  omega

def wrapBad (n n1 n2 : Int) (s : ByteArray) (n3 n4 n5 : Int) : Bool := frBad n n1 n2 s || !(decide (0 ≤ n3) && decide (n3 ≤ 16777215) && (decide (0 ≤ n4) && decide (n4 < 4294967296)) && (decide (0 ≤ n5) && decide (n5 < 4294967296)))

def wrapFrame (n n1 n2 : Int) (s : ByteArray) (n3 n4 n5 : Int) : ByteArray :=
  cond (wrapBad n n1 n2 s n3 n4 n5) ⟨[].toArray⟩ (wrapText n n1 n2 s n3 n4 n5 ++ putWord (mix (wrapText n n1 n2 s n3 n4 n5) 51))

theorem frBad_len {n n1 n2 : Int} {s : ByteArray} (h : frBad n n1 n2 s = false) : (s.size : Int) ≤ 1500 := by
  unfold frBad at h
  simp at h
  omega

theorem impl_WrapFrame_eq (n n1 n2 : Int) (s : ByteArray) (n3 n4 n5 : Int) (hN : 2 ^ 40 < N) (k : ByteArray → Option R) : g_impl_WrapFrame N n n1 n2 s n3 n4 n5 k = k (wrapFrame n n1 n2 s n3 n4 n5) := by
  unfold g_impl_WrapFrame wrapFrame
  simp only [impl_FrameFault_eq, impl_yin_eq, impl_yisWord_eq, cond_somes, oK_some_eq]
  have hj : ∀ f a b c : Bool, (cond ((cond f (1 : Int) 0) != 0) true (cond (!a) true (cond (!b) true (!c)))) = (f || !(a && b && c)) := by decide
  rw [hj]
  change cond (wrapBad n n1 n2 s n3 n4 n5) _ _ = _
  cases hb : wrapBad n n1 n2 s n3 n4 n5 with
  | true => rfl
  | false =>
    have hs : (s.size : Int) ≤ 1500 := frBad_len (n := n) (n1 := n1) (n2 := n2) (by
      unfold wrapBad at hb
      cases hf : frBad n n1 n2 s with
      | false => rfl
      | true => rw [hf] at hb; cases hb)
    have ht := wrapText_size n n1 n2 s n3 n4 n5
    have ht2 := ht
    unfold wrapText at ht2
    simp only [cond_false]
    rw [show (3 : Int) = ((3 : Nat) : Int) from rfl, impl_ybytesOf_eq N (m := 3) (by omega) hN, impl_PutWord_eq, impl_PutWord_eq, show (6 : Int) = ((6 : Nat) : Int) from rfl, impl_ybytesOf_eq N (m := 6) (by omega) hN, impl_ybytesOf_eq N (m := 6) (by omega) hN,
      show (2 : Int) = ((2 : Nat) : Int) from rfl, impl_ybytesOf_eq N (m := 2) (by omega) hN, impl_ybytesOf_eq N (m := 2) (by omega) hN, impl_yjoin_eq N (by simp) (by omega)]
    change g_impl_ymix N (wrapText n n1 n2 s n3 n4 n5) 51 _ = _
    rw [impl_ymix_eq N (by omega) hN, impl_PutWord_eq, putWord_size, ble_t (by omega), cond_true]
    rfl

theorem spec_WrapFrame_eq (n n1 n2 : Int) (s : ByteArray) (n3 n4 n5 : Int) (hN : 2 ^ 40 < N) (k : ByteArray → Option R) : g_spec_WrapFrame N n n1 n2 s n3 n4 n5 k = k (wrapFrame n n1 n2 s n3 n4 n5) := by
  unfold g_spec_WrapFrame wrapFrame
  simp only [spec_FrameFault_eq, spec_l01IsWord_eq, cond_somes, oK_some_eq]
  have hj : (cond ((cond (frBad n n1 n2 s) (1 : Int) 0) != 0) true (cond (decide (n3 < 0)) true (cond (decide (n3 ≥ 16777216)) true (cond (!(decide (n4 ≥ 0) && decide (n4 < 4294967296))) true (!(decide (n5 ≥ 0) && decide (n5 < 4294967296))))))) = wrapBad n n1 n2 s n3 n4 n5 := by
    unfold wrapBad
    rw [Bool.eq_iff_iff]
    cases frBad n n1 n2 s
    · simp
      omega
    · simp
  rw [hj]
  cases hb : wrapBad n n1 n2 s n3 n4 n5 with
  | true => rfl
  | false =>
    have hs : (s.size : Int) ≤ 1500 := frBad_len (n := n) (n1 := n1) (n2 := n2) (by
      unfold wrapBad at hb
      cases hf : frBad n n1 n2 s with
      | false => rfl
      | true => rw [hf] at hb; cases hb)
    have ht := wrapText_size n n1 n2 s n3 n4 n5
    have h0 : (⟨[(78 : UInt8), (86 : UInt8)].toArray⟩ : ByteArray).size = 2 := rfl
    have hcat : (((((((((⟨[(78 : UInt8), (86 : UInt8)].toArray⟩ : ByteArray) ++ bytesOf n3 3) ++ putWord n4) ++ putWord n5) ++ bytesOf n 6) ++ bytesOf n1 6) ++ bytesOf n2 2) ++ bytesOf (s.size : Int) 2) ++ s) = wrapText n n1 n2 s n3 n4 n5 := by
      unfold wrapText
      simp only [catB, ba_append_empty, ByteArray.append_assoc]
    simp only [cond_false]
    rw [show (3 : Int) = ((3 : Nat) : Int) from rfl, spec_l16Bytes_eq N (m := 3) (by omega) hN, bytesOf_size, ble_t (by omega), cond_true, spec_PutWord_eq, putWord_size, ByteArray.size_append, h0, bytesOf_size, ble_t (by omega), cond_true, spec_PutWord_eq, putWord_size,
      ByteArray.size_append, ByteArray.size_append, h0, bytesOf_size, putWord_size, ble_t (by omega), cond_true, show (6 : Int) = ((6 : Nat) : Int) from rfl, spec_l16Bytes_eq N (m := 6) (by omega) hN]
    simp only [ByteArray.size_append, h0, bytesOf_size, putWord_size]
    rw [ble_t (by omega), cond_true, spec_l16Bytes_eq N (m := 6) (by omega) hN]
    simp only [bytesOf_size]
    rw [ble_t (by omega), cond_true, show (2 : Int) = ((2 : Nat) : Int) from rfl, spec_l16Bytes_eq N (m := 2) (by omega) hN]
    simp only [bytesOf_size]
    rw [ble_t (by omega), cond_true, spec_l16Bytes_eq N (m := 2) (by omega) hN]
    simp only [bytesOf_size]
    rw [ble_t (by omega), cond_true, ble_t (by omega), cond_true, hcat, spec_Mix_eq N hN, decide_eq_false (by omega), cond_false, spec_PutWord_eq, putWord_size, ble_t (by omega), cond_true]

theorem law_WrapFrame {n n1 n2 : Int} {s : ByteArray} {n3 n4 n5 : Int} (hN : 2 ^ 40 < N) (k : Bool → Option R) : g_laws_FnExactWrapFrame N n n1 n2 s n3 n4 n5 k = k true := by
  unfold g_laws_FnExactWrapFrame g_laws_szFrame
  by_cases h : IntKind.wrap .i64 (1048576 - (s.size : Int)) < 0
  · rw [decide_eq_true h]; rfl
  · rw [decide_eq_false h, cond_false]
    dsimp only
    rw [decide_eq_false h, cond_false]
    unfold g_laws_toFrame
    rw [spec_WrapFrame_eq N _ _ _ _ _ _ _ hN, impl_WrapFrame_eq N _ _ _ _ _ _ _ hN, decide_eq_true rfl]
    rfl

end
end Go.Sa
