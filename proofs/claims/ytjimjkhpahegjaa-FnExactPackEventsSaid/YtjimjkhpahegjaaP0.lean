import Derived.Test.YtjimjkhpahegjaaW0
set_option linter.all false
namespace Go.Sa
open Go Go.Eng
section
variable {R : Type} (N : Nat)
variable {R : Type}

@[simp] theorem laws_toEvent_eq (a0 : Int) (a1 : Int) (a2 : Int) (a3 : Int) (k : Option R) : g_laws_toEvent N a0 a1 a2 a3 k = k := rfl

theorem laws_toEventS_r_eq {l : List Event} {b : Bool} (hl : l.length ≤ 2 ^ 40) (hN : 2 ^ 40 < N) (k : List Event → Option R) : g_laws_toEventS_r N b l k = k l := by
  unfold g_laws_toEventS_r
  rw [Int.toNat_natCast, room (by omega) (by omega), dec_self]
  unfold c_laws_toEventS_r_0
  refine (copyl (l_laws_toEventS_r_0 N b false l (fun l4 => k l4)) l (fun x => x) k (fun f i ys x hi hy hx => ?_) (fun f ys hy => ?_) (by simp) (by omega)).trans (by rw [List.map_id'])
  · obtain ⟨y, hy1⟩ := nth_some (l := ys) (n := i) (by omega)
    simp only [l_laws_toEventS_r_0, s_laws_toEventS_r_0, laws_toEvent_eq, dec_lt hi, dec_nn, Int.toNat_natCast, elemK_some hx, elemK_some hy1, dec_lt (show i < ys.length by omega), blt_t (show i < ys.length by omega), wrap_next hi (by omega), Bool.and_true, cond_true]
  · simp only [l_laws_toEventS_r_0, s_laws_toEventS_r_0, dec_nlt, cond_false]

theorem laws_eqEvent_eq (x y : Event) (k : Bool → Option R) : g_laws_eqEvent N x.fAt x.fKind x.fNum x.fValue y.fAt y.fKind y.fNum y.fValue k = k (decide (x = y)) := by
  unfold g_laws_eqEvent
  by_cases h0 : x.fAt = y.fAt
  case neg =>
    rw [decide_eq_false (show ¬ x = y from fun e => h0 (by rw [e]))]
    simp only [bne_dec, beq_dec, h0, decide_false, Bool.not_false, cond_true]
  simp only [bne_dec, beq_dec, h0, decide_true, Bool.not_true, cond_false]
  by_cases h1 : x.fKind = y.fKind
  case neg =>
    rw [decide_eq_false (show ¬ x = y from fun e => h1 (by rw [e]))]
    simp only [bne_dec, beq_dec, h1, decide_false, Bool.not_false, cond_true]
  simp only [bne_dec, beq_dec, h1, decide_true, Bool.not_true, cond_false]
  by_cases h2 : x.fNum = y.fNum
  case neg =>
    rw [decide_eq_false (show ¬ x = y from fun e => h2 (by rw [e]))]
    simp only [bne_dec, beq_dec, h2, decide_false, Bool.not_false, cond_true]
  simp only [bne_dec, beq_dec, h2, decide_true, Bool.not_true, cond_false]
  by_cases h3 : x.fValue = y.fValue
  case neg =>
    rw [decide_eq_false (show ¬ x = y from fun e => h3 (by rw [e]))]
    simp only [bne_dec, beq_dec, h3, decide_false, Bool.not_false, cond_true]
  simp only [bne_dec, beq_dec, h3, decide_true, Bool.not_true, cond_false]
  rw [decide_eq_true (show x = y by cases x; cases y; simp_all)]

theorem laws_eqEventS_ww_eq {l m : List Event} {b b1 : Bool} (hl : l.length ≤ 2 ^ 40) (hN : 2 ^ 40 < N) (k : Bool → Option R) : g_laws_eqEventS_ww N b b1 l m k = k (decide (l = m)) := by
  unfold g_laws_eqEventS_ww
  by_cases h : l.length = m.length
  · rw [show ((l.length : Int) != (m.length : Int)) = false by simp [h]]
    unfold c_laws_eqEventS_ww_0
    refine (eql (l_laws_eqEventS_ww_0 N b b1 l m (k false) (k true)) l m h (k false) (k true) (fun f i x y hi hx hy => ?_) (fun f => ?_) (by omega)).trans ?_
    · simp only [l_laws_eqEventS_ww_0, s_laws_eqEventS_ww_0, dec_lt hi, dec_nn, Int.toNat_natCast, elemK_some hx, elemK_some hy, dec_lt (show i < m.length by omega), laws_eqEvent_eq, wrap_next hi (by omega), Bool.and_true, cond_true]
    · simp only [l_laws_eqEventS_ww_0, s_laws_eqEventS_ww_0, dec_nlt, cond_false]
    · cases decide (l = m) <;> rfl
  · rw [show ((l.length : Int) != (m.length : Int)) = true by simp; omega]
    rw [decide_eq_false (fun e => h (by rw [e]))]
    rfl

theorem laws_szEventS_r_eq {l : List Event} {b : Bool} (hl : l.length ≤ maxLen) (k : Int → Option R) : g_laws_szEventS_r N b 1048576 l k = k (cond (decide (1048576 < l.length)) (-1) (1048576 - (l.length : Int))) := by
  unfold g_laws_szEventS_r
  have hm : maxLen = 9223372036854775807 := rfl
  rw [w64 (by omega) (by omega)]
  by_cases h : 1048576 < l.length
  · rw [decide_eq_true h, decide_eq_true (by omega)]; rfl
  · rw [decide_eq_false h, decide_eq_false (by omega)]; rfl

@[simp] theorem impl_yin_eq (a lo hi : Int) (k : Bool → Option R) : g_impl_yin N a lo hi k = k (decide (a ≥ lo) && decide (a ≤ hi)) := by
  simp [g_impl_yin]

@[simp] theorem impl_yisWord_eq (a : Int) (k : Bool → Option R) : g_impl_yisWord N a k = k (decide (a ≥ 0) && decide (a < 4294967296)) := by
  simp [g_impl_yisWord]

@[simp] theorem spec_l01IsWord_eq (a : Int) (k : Bool → Option R) : g_spec_l01IsWord N a k = k (decide (a ≥ 0) && decide (a < 4294967296)) := by
  simp [g_spec_l01IsWord]

def word (n : Int) : Int := n % 4294967296

def putWord (n : Int) : ByteArray := toBytes [word n % 256, word n / 256 % 256, word n / 65536 % 256, word n / 16777216 % 256]

theorem putWord_size (n : Int) : (putWord n).size = 4 := toBytes_size _

theorem impl_PutWord_eq (n : Int) (k : ByteArray → Option R) : g_impl_PutWord N n k = k (putWord n) := by
  simp only [g_impl_PutWord, wu8, wu32, fdiv_lit _ (show (0 : Int) ≤ 256 by omega), fdiv_lit _ (show (0 : Int) ≤ 65536 by omega), fdiv_lit _ (show (0 : Int) ≤ 16777216 by omega), seg_all]
  rfl

theorem spec_l01Mod_eq {n m : Int} (hm : 0 < m) (hm2 : m ≤ 2 ^ 62) (k : Int → Option R) : g_spec_l01Mod N n m k = k (n % m) := by
  unfold g_spec_l01Mod
  obtain ⟨h1, h2⟩ := tmod_bound (n := n) hm
  rw [show (m == 0) = false by rw [beq_dec]; exact decide_eq_false (by omega), ← tmod_add (n := n) hm]
  by_cases h : n.tmod m < 0
  · rw [decide_eq_true h, if_pos h, w64 (by omega) (by omega)]; rfl
  · rw [decide_eq_false h, if_neg h]; rfl

theorem spec_Word_eq (n : Int) (k : Int → Option R) : g_spec_Word N n k = k (word n) := by
  unfold g_spec_Word
  rw [spec_l01Mod_eq N (by omega) (by omega)]
  rfl

theorem spec_PutWord_eq (n : Int) (k : ByteArray → Option R) : g_spec_PutWord N n k = k (putWord n) := by
  simp only [g_spec_PutWord, spec_Word_eq, wu8, fdiv_lit _ (show (0 : Int) ≤ 256 by omega), fdiv_lit _ (show (0 : Int) ≤ 65536 by omega), fdiv_lit _ (show (0 : Int) ≤ 16777216 by omega), seg_all]
  rfl


/-- An event that is refused at its place; 'p': the one ahead of it is later. -/
def evB (x : Event) (p : Bool) : Bool :=
  !((x.fKind == 1 && (decide (x.fNum ≥ 0) && decide (x.fNum ≤ 6) && x.fValue == 0)) || (x.fKind == 2 && (decide (x.fNum ≥ 0) && decide (x.fNum ≤ 2047) && (decide (x.fValue ≥ 0) && decide (x.fValue < 4294967296))))) ||
      (!(decide (x.fAt ≥ 0) && decide (x.fAt ≤ 1099511627776)) || p)

def evBad (l : List Event) (i : Nat) : Bool :=
  match nth l i with
  | none => true
  | some x => evB x (prevIs (fun y x => decide (y.fAt > x.fAt)) l i x)

def evFault (l : List Event) : Int := cond (decide (l.length > 200)) 1 (cond ((List.range l.length).any (evBad l)) 1 0)

theorem impl_EventsFault_eq {l : List Event} {b : Bool} (hN : 2 ^ 40 < N) (k : Int → Option R) : g_impl_EventsFault_w N b l k = k (evFault l) := by
  unfold g_impl_EventsFault_w evFault
  have hg : decide ((l.length : Int) > 200) = decide (l.length > 200) := decide_eq_decide.2 (by omega)
  rw [hg]
  by_cases hl : l.length > 200
  · rw [decide_eq_true hl]; rfl
  · rw [decide_eq_false hl]
    simp only [cond_false]
    unfold c_impl_EventsFault_w_0
    refine (srch (l_impl_EventsFault_w_0 N b b l.length l (k 1) (k 0)) l.length (evBad l) (k 1) (k 0) (fun f i hi => ?_) (fun f => ?_) (by omega)).trans (cond_app _ k 1 0)
    · obtain ⟨x, hx⟩ := nth_some hi
      simp only [l_impl_EventsFault_w_0, s_impl_EventsFault_w_0, dec_lt hi, dec_nn, Int.toNat_natCast, elemK_some hx, wrap_next hi (by omega), Bool.and_true, cond_true, evBad, hx]
      by_cases h0 : 0 < i
      · obtain ⟨y, hy⟩ := nth_some (l := l) (n := i - 1) (by omega)
        simp only [wrap_prev h0 (by omega), Int.toNat_natCast, elemK_some hy, prevIs, hy, dec_nn, dec_lt (show i - 1 < l.length by omega), decide_eq_true h0, decide_eq_true (show (i : Int) > 0 by omega), impl_yin_eq, impl_yisWord_eq, Bool.and_true, cond_true, cond_somes, oK_some_eq, Bool.true_and]
        refine congrArg (fun c => cond c _ _) ?_
        rw [Bool.eq_iff_iff]
        simp [evB]
        split <;> omega
      · have h00 : i = 0 := by omega
        subst h00
        simp only [prevIs, decide_eq_false (show ¬ (0 : Nat) < 0 by omega), decide_eq_false (show ¬ ((0 : Nat) : Int) > 0 by omega), impl_yin_eq, impl_yisWord_eq, cond_somes, oK_some_eq, cond_false, Bool.false_and]
        refine congrArg (fun c => cond c _ _) ?_
        rw [Bool.eq_iff_iff]
        simp [evB]
        split <;> omega
    · simp only [l_impl_EventsFault_w_0, s_impl_EventsFault_w_0, dec_nlt, cond_false]

theorem spec_EventsFault_eq {l : List Event} {b : Bool} (hN : 2 ^ 40 < N) (k : Int → Option R) : g_spec_EventsFault_w N b l k = k (evFault l) := by
  unfold g_spec_EventsFault_w evFault
  have hg : decide ((l.length : Int) > 200) = decide (l.length > 200) := decide_eq_decide.2 (by omega)
  rw [hg]
  by_cases hl : l.length > 200
  · rw [decide_eq_true hl]; rfl
  · rw [decide_eq_false hl]
    simp only [cond_false]
    unfold c_spec_EventsFault_w_0
    refine (srch (l_spec_EventsFault_w_0 N b l (k 1) (k 0)) l.length (evBad l) (k 1) (k 0) (fun f i hi => ?_) (fun f => ?_) (by omega)).trans (cond_app _ k 1 0)
    · obtain ⟨x, hx⟩ := nth_some hi
      simp only [l_spec_EventsFault_w_0, s_spec_EventsFault_w_0, dec_lt hi, dec_nn, Int.toNat_natCast, elemK_some hx, wrap_next hi (by omega), Bool.and_true, cond_true, evBad, hx]
      by_cases h0 : 0 < i
      · obtain ⟨y, hy⟩ := nth_some (l := l) (n := i - 1) (by omega)
        simp only [wrap_prev h0 (by omega), Int.toNat_natCast, elemK_some hy, prevIs, hy, dec_nn, dec_lt (show i - 1 < l.length by omega), decide_eq_true h0, decide_eq_true (show (i : Int) > 0 by omega), spec_l01IsWord_eq, Bool.and_true, cond_true, cond_somes, oK_some_eq, Bool.true_and]
        generalize l_spec_EventsFault_w_0 N b l (k 1) (k 0) f _ = z
        simp only [Bool.cond_eq_ite, evB]
        repeat' split
        all_goals first | rfl | (exfalso; simp_all <;> omega)
      · have h00 : i = 0 := by omega
        subst h00
        simp only [prevIs, decide_eq_false (show ¬ (0 : Nat) < 0 by omega), decide_eq_false (show ¬ ((0 : Nat) : Int) > 0 by omega), spec_l01IsWord_eq, cond_somes, oK_some_eq, cond_false, Bool.false_and]
        generalize l_spec_EventsFault_w_0 N b l (k 1) (k 0) f _ = z
        simp only [Bool.cond_eq_ite, evB]
        repeat' split
        all_goals first | rfl | (exfalso; simp_all <;> omega)
    · simp only [l_spec_EventsFault_w_0, s_spec_EventsFault_w_0, dec_nlt, cond_false]

theorem putWord_congr {a b : Int} (h : word a = word b) : putWord a = putWord b := by unfold putWord; rw [h]

/-- A fold over a list, each place going on with another state. -/
theorem foldL {T S : Type} (lp : Nat → Int → S → Option R) (l : List T) (g : S → T → S) (I : Nat → S → Prop) (k : S → Option R)
    (h : ∀ f i s x, i < l.length → nth l i = some x → I i s → lp (f + 1) (i : Int) s = lp f ((i + 1 : Nat) : Int) (g s x) ∧ I (i + 1) (g s x))
    (he : ∀ f s, I l.length s → lp (f + 1) (l.length : Int) s = k s) {s : S} (hs : I 0 s) {f : Nat} (hf : l.length < f) : lp f 0 s = k (l.foldl g s) ∧ I l.length (l.foldl g s) := by
  have := fold lp l.length (fun i s => atD l i (g s) s) I k (fun f i s hi hI => by
    obtain ⟨x, hx⟩ := nth_some hi
    rw [atD_some hx]
    exact h f i s x hi hx hI) he hs hf
  rw [foldl_atD] at this
  exact this

/-- Texts, one behind the other. -/
def catB : List ByteArray → ByteArray
  | [] => ⟨[].toArray⟩
  | x :: l => x ++ catB l

theorem ba_append_empty (x : ByteArray) : x ++ (⟨[].toArray⟩ : ByteArray) = x := by
  apply ByteArray.ext
  simp

theorem ba_empty_append (x : ByteArray) : (⟨[].toArray⟩ : ByteArray) ++ x = x := by
  apply ByteArray.ext
  simp

theorem join_flatten : ∀ xs : List (List UInt8), Lib.join xs [] = xs.flatten
  | [] => rfl
  | x :: r => by
    rw [Lib.join_cons, List.flatten_cons]
    unfold Lib.joinTail
    simp

theorem catB_toList : ∀ l : List ByteArray, (catB l).data.toList = (l.map (·.data.toList)).flatten
  | [] => rfl
  | x :: l => by
    simp only [catB, List.map_cons, List.flatten_cons, ← catB_toList l]
    simp

theorem joinB_cat (l : List ByteArray) : joinB l ⟨[].toArray⟩ = catB l := by
  unfold joinB
  apply ByteArray.ext
  apply Array.ext'
  show Lib.join (l.map (·.data.toList)) [] = _
  rw [join_flatten, catB_toList]

theorem joinOk_cat {l : List ByteArray} (h1 : l.length ≤ 2 ^ 40) (h2 : (catB l).size ≤ 2 ^ 40) : joinOk l ⟨[].toArray⟩ = true := by
  unfold joinOk
  have h3 : (Lib.join (l.map (·.data.toList)) (⟨[].toArray⟩ : ByteArray).data.toList).length = (catB l).size := by
    show (Lib.join (l.map (·.data.toList)) []).length = _
    rw [join_flatten, ← catB_toList]
    rfl
  rw [h3, ble_t (by omega), ble_t (by omega)]
  rfl

theorem catB_size : ∀ l : List ByteArray, (catB l).size = (l.map (·.size)).sum
  | [] => rfl
  | x :: l => by
    simp only [catB, ByteArray.size_append, List.map_cons, List.sum_cons, catB_size l]

theorem tdiv_nn {n m : Int} (h : 0 ≤ n) : n.tdiv m = n / m := Int.tdiv_eq_ediv_of_nonneg h

theorem tmod_nn {n m : Int} (h : 0 ≤ n) : n.tmod m = n % m := Int.tmod_eq_emod_of_nonneg h

/-- A list's fold that appends to a text. -/
theorem foldl_append {T : Type} (f : T → ByteArray) : ∀ (l : List T) (s : ByteArray), l.foldl (fun s x => s ++ f x) s = s ++ catB (l.map f)
  | [], s => by simp only [List.foldl_nil, List.map_nil, catB, ba_append_empty]
  | x :: l, s => by
    rw [List.foldl_cons, foldl_append f l, List.map_cons]
    simp only [catB, ByteArray.append_assoc]

theorem impl_yjoin_eq {l : List ByteArray} {b : Bool} (h1 : l.length ≤ 2 ^ 40) (h2 : (catB l).size ≤ 2 ^ 40) (k : ByteArray → Option R) : g_impl_yjoin_r N b l k = k (catB l) := by
  unfold g_impl_yjoin_r
  rw [joinOk_cat h1 h2, cond_true, joinB_cat]

def evNum (x : Event) : Int := IntKind.wrap .i64 (IntKind.wrap .i64 (x.fKind * 65536) + x.fNum)

def evText (x : Event) : ByteArray := catB [putWord x.fAt, putWord (x.fAt / 4294967296), putWord (evNum x), putWord x.fValue]

theorem evText_size (x : Event) : (evText x).size = 16 := by
  unfold evText
  rw [catB_size]
  simp only [List.map_cons, List.map_nil, putWord_size, List.sum_cons, List.sum_nil]
  rfl

def packEvents (l : List Event) : ByteArray := cond (evFault l != 0) ⟨[].toArray⟩ (l.foldl (fun s x => s ++ evText x) ⟨[(86 : UInt8), (69 : UInt8), (49 : UInt8), (10 : UInt8)].toArray⟩)

theorem evFault_facts {l : List Event} (h : (evFault l != 0) = false) : l.length ≤ 200 ∧ ∀ i x, nth l i = some x → 0 ≤ x.fAt ∧ x.fAt ≤ 1099511627776 := by
  unfold evFault at h
  by_cases hl : l.length > 200
  · rw [decide_eq_true hl] at h; cases h
  · rw [decide_eq_false hl, cond_false] at h
    refine ⟨by omega, fun i x hx => ?_⟩
    have hany : (List.range l.length).any (evBad l) = false := by
      cases ha : (List.range l.length).any (evBad l) with
      | false => rfl
      | true => rw [ha] at h; cases h
    have := List.any_eq_false.1 hany i (List.mem_range.2 (nth_lt hx))
    unfold evBad at this
    rw [hx] at this
    simp only [evB, Bool.or_eq_true, not_or, Bool.not_eq_true, Bool.not_eq_false', Bool.and_eq_true, decide_eq_true_eq] at this
    omega

theorem spec_l20Words_eq {l : List Int} {b : Bool} (hl : l.length ≤ 2 ^ 30) (hN : 2 ^ 40 < N) (k : ByteArray → Option R) : g_spec_l20Words_w N b l k = k (catB (l.map putWord)) := by
  unfold g_spec_l20Words_w c_spec_l20Words_w_0
  obtain ⟨h1, _⟩ := foldL (fun f i s => l_spec_l20Words_w_0 N b l (fun s2 => k s2) f s i) l (fun s x => s ++ putWord x) (fun i s => s.size = 4 * i) (fun s => k s) (fun f i s x hi hx hs => by
      simp only [l_spec_l20Words_w_0, s_spec_l20Words_w_0, dec_lt hi, dec_nn, Int.toNat_natCast, elemK_some hx, spec_PutWord_eq, putWord_size, ble_t (show s.size + 4 ≤ 9223372036854775807 by omega), wrap_next hi (by omega), Bool.and_true, cond_true]
      exact ⟨trivial, by rw [ByteArray.size_append, putWord_size]; omega⟩) (fun f s _ => by
      simp only [l_spec_l20Words_w_0, s_spec_l20Words_w_0, dec_nlt, cond_false]) (s := ⟨[].toArray⟩) rfl (f := N) (by omega)
  refine h1.trans ?_
  rw [foldl_append, ba_empty_append]

theorem spec_PackEvents_eq {l : List Event} {b : Bool} (hN : 2 ^ 40 < N) (k : ByteArray → Option R) : g_spec_PackEvents_w N b l k = k (packEvents l) := by
  unfold g_spec_PackEvents_w packEvents
  rw [spec_EventsFault_eq N hN]
  cases hb : (evFault l != 0) with
  | true => rfl
  | false =>
    obtain ⟨hl, hf⟩ := evFault_facts hb
    simp only [cond_false]
    unfold c_spec_PackEvents_w_0
    obtain ⟨h1, _⟩ := foldL (fun f i s => l_spec_PackEvents_w_0 N b l (fun s2 => k s2) f s i) l (fun s x => s ++ evText x) (fun i s => s.size = 4 + 16 * i) (fun s => k s) (fun f i s x hi hx hs => by
      obtain ⟨a0, a1⟩ := hf i x hx
      have hw := spec_l20Words_eq (R := R) N (b := false) (l := [x.fAt, Int.fdiv x.fAt 4294967296, evNum x, x.fValue]) (by simp) hN
      rw [fdiv_lit _ (by omega)] at hw
      simp only [List.map_cons, List.map_nil] at hw
      change ∀ k, g_spec_l20Words_w N false [x.fAt, x.fAt / 4294967296, evNum x, x.fValue] k = k (evText x) at hw
      simp only [l_spec_PackEvents_w_0, s_spec_PackEvents_w_0, dec_lt hi, dec_nn, Int.toNat_natCast, elemK_some hx, fdiv_lit x.fAt (show (0 : Int) ≤ 4294967296 by omega), Bool.and_true, cond_true]
      change (g_spec_l20Words_w N false [x.fAt, x.fAt / 4294967296, evNum x, x.fValue] _) = _ ∧ _
      rw [hw, evText_size, ble_t (show s.size + 16 ≤ 9223372036854775807 by omega), cond_true, wrap_next hi (by omega)]
      exact ⟨rfl, by rw [ByteArray.size_append, evText_size]; omega⟩) (fun f s _ => by
      simp only [l_spec_PackEvents_w_0, s_spec_PackEvents_w_0, dec_nlt, cond_false]) (s := ⟨[(86 : UInt8), (69 : UInt8), (49 : UInt8), (10 : UInt8)].toArray⟩) rfl (f := N) (by omega)
    exact h1

theorem impl_PackEvents_eq {l : List Event} {b : Bool} (hN : 2 ^ 40 < N) (k : ByteArray → Option R) : g_impl_PackEvents_w N b l k = k (packEvents l) := by
  unfold g_impl_PackEvents_w packEvents
  rw [impl_EventsFault_eq N hN]
  cases hb : (evFault l != 0) with
  | true => rfl
  | false =>
    obtain ⟨hl, hf⟩ := evFault_facts hb
    simp only [cond_false]
    unfold c_impl_PackEvents_w_0
    obtain ⟨h1, _⟩ := foldL (fun f i s => l_impl_PackEvents_w_0 N b l.length l (fun s6 => k s6) f s i) l (fun s x => s ++ evText x) (fun i s => s.size = 4 + 16 * i) (fun s => k s) (fun f i s x hi hx hs => by
      obtain ⟨a0, a1⟩ := hf i x hx
      have hc : catB [s, putWord x.fAt, putWord (x.fAt / 4294967296), putWord (evNum x), putWord x.fValue] = s ++ evText x := rfl
      have hsz : (s ++ evText x).size = s.size + 16 := by rw [ByteArray.size_append, evText_size]
      have hm : putWord (x.fAt % 4294967296) = putWord x.fAt := putWord_congr (by unfold word; omega)
      simp only [l_impl_PackEvents_w_0, s_impl_PackEvents_w_0, dec_lt hi, dec_nn, Int.toNat_natCast, elemK_some hx, impl_PutWord_eq, tmod_nn a0, tdiv_nn a0, hm, w64 (show -9223372036854775808 ≤ x.fAt / 4294967296 by omega) (show x.fAt / 4294967296 < 9223372036854775808 by omega), Bool.and_true, cond_true]
      change (g_impl_yjoin_r N false [s, putWord x.fAt, putWord (x.fAt / 4294967296), putWord (evNum x), putWord x.fValue] _) = _ ∧ _
      rw [impl_yjoin_eq N (by simp) (by rw [hc, hsz]; omega), hc, wrap_next hi (by omega)]
      exact ⟨rfl, by rw [hsz]; omega⟩) (fun f s _ => by
      simp only [l_impl_PackEvents_w_0, s_impl_PackEvents_w_0, dec_nlt, cond_false]) (s := ⟨[(86 : UInt8), (69 : UInt8), (49 : UInt8), (10 : UInt8)].toArray⟩) rfl (f := N) (by omega)
    exact h1

theorem law_PackEvents {l : List Event} {b : Bool} (hl : l.length ≤ maxLen) (hN : 2 ^ 40 < N) (k : Bool → Option R) : g_laws_FnExactPackEvents_r N b l k = k true := by
  unfold g_laws_FnExactPackEvents_r
  rw [laws_szEventS_r_eq N hl]
  by_cases h : 1048576 < l.length
  · rw [decide_eq_true h]; rfl
  · rw [decide_eq_false h, cond_false, decide_eq_false (by omega), cond_false]
    simp only [laws_toEventS_r_eq N (show l.length ≤ 2 ^ 40 by omega) hN, spec_PackEvents_eq N hN, impl_PackEvents_eq N hN, laws_eqEventS_ww_eq N (show l.length ≤ 2 ^ 40 by omega) hN, decide_true, Bool.not_true, cond_false]

end
end Go.Sa
