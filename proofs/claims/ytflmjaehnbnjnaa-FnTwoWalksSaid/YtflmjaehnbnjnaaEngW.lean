import Derived.Test.YtflmjaehnbnjnaaEngX
set_option linter.all false
namespace Go.Eng
open Go Go.RowKit

def svIs : SV → Value → Bool
  | .bool b, .bool b' => b == b'
  | .int k n, .int k' n' => decide (k = k') && decide (n = n')
  | .str s, .string s' => decide (s = s')
  | .nilp, .pointer none => true
  | .nilf, .nilFunc => true
  | .nili, .nilIface => true
  | _, _ => false

theorem svIs_ok {x : SV} {v : Value} (h : svIs x v = true) : x.still = true ∧ RS [] x v := by
  unfold svIs at h
  split at h
  · exact ⟨rfl, by rw [eq_of_beq h]; rfl⟩
  · simp only [Bool.and_eq_true, decide_eq_true_eq] at h
    exact ⟨rfl, by rw [h.1, h.2]; rfl⟩
  · exact ⟨rfl, by rw [of_decide_eq_true h]; rfl⟩
  · exact ⟨rfl, rfl⟩
  · exact ⟨rfl, rfl⟩
  · exact ⟨rfl, rfl⟩
  · cases h

def zcIs : ZC → Value → Bool
  | .v x, v => svIs x v
  | .nils _, .slice none 0 0 => true
  | _, _ => false

theorem zcIs_ok {z : ZC} {v : Value} (h : zcIs z v = true) : zcOk z v := by
  unfold zcIs at h
  split at h
  · exact svIs_ok h
  · exact rfl
  · cases h

def zcsIs : List ZC → List Value → Bool
  | [], [] => true
  | z :: l, v :: m => zcIs z v && zcsIs l m
  | _, _ => false

theorem zcsIs_ok : ∀ {l : List ZC} {m : List Value}, zcsIs l m = true → All2 zcOk l m
  | [], [], _ => trivial
  | z :: l, v :: m, h => by
    simp only [zcsIs, Bool.and_eq_true] at h
    exact ⟨zcIs_ok h.1, zcsIs_ok h.2⟩
  | [], _ :: _, h => by cases h
  | _ :: _, [], h => by cases h

def fisIs (P : Program) : List FI → List Field → Bool
  | [], [] => true
  | f :: l, g :: m => (match P.info? g.type, P.underlying g.type with
    | some inf, some dg => Nat.beq g.offset f.off && Nat.beq inf.size f.size && (aggOf dg == f.agg)
    | _, _ => false) && fisIs P l m
  | _, _ => false

theorem fisIs_ok {P : Program} : ∀ {l : List FI} {m : List Field}, fisIs P l m = true → m.length = l.length ∧ ∀ j f, nth l j = some f → ∃ g inf dg, m[j]? = some g ∧ g.offset = f.off ∧ P.info? g.type = some inf ∧ inf.size = f.size ∧ P.underlying g.type = some dg ∧ aggOf dg = f.agg
  | [], [], _ => ⟨rfl, fun j f h => by cases h⟩
  | f :: l, g :: m, h => by
    simp only [fisIs, Bool.and_eq_true] at h
    obtain ⟨h1, h2⟩ := fisIs_ok h.2
    refine ⟨by simp [h1], fun j f' hj => ?_⟩
    cases j with
    | zero =>
      cases hj
      have h3 := h.1
      split at h3
      · rename_i inf dg hi hu
        simp only [Bool.and_eq_true] at h3
        exact ⟨g, inf, dg, rfl, Nat.eq_of_beq_eq_true h3.1.1, hi, Nat.eq_of_beq_eq_true h3.1.2, hu, eq_of_beq h3.2⟩
      · cases h3
    | succ j => simpa using h2 j f' hj
  | [], _ :: _, h => by cases h
  | _ :: _, [], h => by cases h

def shpIs (P : Program) : TypeDesc → Shp → Bool
  | .bool, .bool => true
  | .int k, .int k' => decide (k = k')
  | .string, .str => true
  | .slice e, .slice e' => Nat.beq e e'
  | .array n e, .array n' e' => Nat.beq n n' && Nat.beq e e'
  | .struct gs, .struct fs => fisIs P fs gs.toList
  | _, .ptr => true
  | _, .func => true
  | _, .other => true
  | _, _ => false

theorem shpIs_ok {P : Program} {d : TypeDesc} {s : Shp} (h : shpIs P d s = true) : shpOk P d s := by
  unfold shpIs at h
  split at h
  · exact rfl
  · rw [of_decide_eq_true h]; exact rfl
  · exact rfl
  · rw [Nat.eq_of_beq_eq_true h]; exact rfl
  · simp only [Bool.and_eq_true] at h
    rw [Nat.eq_of_beq_eq_true h.1, Nat.eq_of_beq_eq_true h.2]; exact rfl
  · obtain ⟨h1, h2⟩ := fisIs_ok h
    exact ⟨_, rfl, by simpa using h1, fun j f hj => let ⟨g, inf, dg, a, b⟩ := h2 j f hj; ⟨g, inf, dg, by simpa using a, b⟩⟩
  · trivial
  · trivial
  · trivial
  · cases h

def eqvIs (P : Program) : Nat → List Shp → List Field → Bool
  | _, [], [] => true
  | i, s :: l, g :: m => !(g.name == "_") && Nat.beq g.offset i && (match P.underlying g.type with
    | some dg => shpIs P dg s
    | none => false) && eqvIs P (i + 1) l m
  | _, _, _ => false

theorem eqvIs_ok {P : Program} : ∀ {l : List Shp} {m : List Field} {i : Nat}, eqvIs P i l m = true → m.length = l.length ∧ ∀ j g, m[j]? = some g → g.name ≠ "_" ∧ g.offset = i + j ∧ ∃ dg s, P.underlying g.type = some dg ∧ nth l j = some s ∧ shpOk P dg s
  | [], [], _, _ => ⟨rfl, fun j f h => by simp at h⟩
  | s :: l, g :: m, i, h => by
    simp only [eqvIs, Bool.and_eq_true, Bool.not_eq_true'] at h
    obtain ⟨h1, h2⟩ := eqvIs_ok h.2
    refine ⟨by simp [h1], fun j g' hj => ?_⟩
    cases j with
    | zero =>
      simp at hj
      subst hj
      have h3 := h.1.2
      split at h3
      · rename_i dg hu
        exact ⟨by simpa using h.1.1.1, Nat.eq_of_beq_eq_true h.1.1.2, dg, s, hu, rfl, shpIs_ok h3⟩
      · cases h3
    | succ j =>
      obtain ⟨a, b, c⟩ := h2 j g' (by simpa using hj)
      exact ⟨a, by omega, c⟩
  | [], _ :: _, _, h => by cases h
  | _ :: _, [], _, h => by cases h

def isAggV : Value → Bool
  | .agg _ => true
  | _ => false

def tyIs (P : Program) (t : TypeId) (ti : TI) : Bool :=
  match P.info? t, P.underlying t with
  | some inf, some d => Nat.beq inf.size ti.size && Nat.beq inf.bytes ti.bytes && (aggOf d == ti.agg) && shpIs P d ti.shp &&
    (match inf.zero with
     | some z => Nat.beq z.cells.size ti.size && zcsIs ti.zero z.cells.toList && (!ti.agg || isAggV z)
     | none => false) &&
    (match ti.eqv, d with
     | none, _ => true
     | some fs, .struct gs => !P.stoodInHeld t && !P.eqGuardType P.depth t && eqvIs P 0 fs gs.toList
     | _, _ => false)
  | _, _ => false

theorem tyIs_ok {P : Program} {t : TypeId} {ti : TI} (h : tyIs P t ti = true) : TyOk P t ti := by
  unfold tyIs at h
  split at h
  · rename_i inf d hi hu
    simp only [Bool.and_eq_true] at h
    obtain ⟨⟨⟨⟨⟨h1, h2⟩, h3⟩, h4⟩, h5⟩, h6⟩ := h
    refine ⟨inf, d, hi, hu, Nat.eq_of_beq_eq_true h1, Nat.eq_of_beq_eq_true h2, eq_of_beq h3, shpIs_ok h4, ?_, fun fs hfs => ?_⟩
    · split at h5
      · rename_i z hz
        simp only [Bool.and_eq_true, Bool.or_eq_true, Bool.not_eq_true'] at h5
        refine ⟨z, hz, Nat.eq_of_beq_eq_true h5.1.1, zcsIs_ok h5.1.2, fun ha => ?_⟩
        rcases h5.2 with h7 | h7
        · rw [ha] at h7; cases h7
        · cases z <;> first | exact ⟨_, rfl⟩ | cases h7
      · cases h5
    · rw [hfs] at h6
      split at h6
      · rename_i heq; cases heq
      · rename_i fs' gs heq
        cases heq
        simp only [Bool.and_eq_true, Bool.not_eq_true'] at h6
        obtain ⟨h8, h9⟩ := eqvIs_ok h6.2
        refine ⟨h6.1.1, h6.1.2, gs, rfl, by simpa using h8, fun j g hj => ?_⟩
        obtain ⟨a, b, c⟩ := h9 j g (by simpa using hj)
        exact ⟨a, by omega, c⟩
      · cases h6
  · cases h

abbrev Tab := List (TypeId × TI)

def tabLook (t : TypeId) : Tab → Option TI
  | [] => none
  | x :: l => cond (Nat.beq x.1 t) (some x.2) (tabLook t l)

theorem tabLook_ok {P : Program} {t : TypeId} {ti : TI} : ∀ {l : Tab}, l.all (fun x => tyIs P x.1 x.2) = true → tabLook t l = some ti → TyOk P t ti
  | [], _, h => by cases h
  | x :: l, ha, h => by
    simp only [List.all_cons, Bool.and_eq_true] at ha
    unfold tabLook at h
    cases hb : Nat.beq x.1 t with
    | true =>
      rw [hb] at h; cases h
      rw [← Nat.eq_of_beq_eq_true hb]
      exact tyIs_ok ha.1
    | false => rw [hb] at h; exact tabLook_ok ha.2 h

structure RT (T : Type) where
  elt : TypeId
  sz : Nat
  cells : T → List SV
  ofK : {α : Type} → List SV → (T → Option α) → Option α

structure RTOk {T : Type} (P : Program) (rt : RT T) : Prop where
  len : ∀ x, (rt.cells x).length = rt.sz
  plain : ∀ x, ∀ s ∈ rt.cells x, s.plain = true
  of : ∀ {α : Type} (l : List SV) (K : T → Option α) (r : α), rt.ofK l K = some r → ∃ x, K x = some r ∧ rt.cells x = l
  info : ∃ inf, P.info? rt.elt = some inf ∧ inf.size = rt.sz ∧ 0 < rt.sz

section
variable {T : Type} (rt : RT T)

def rtCells : List T → List SV
  | [] => []
  | x :: l => rt.cells x ++ rtCells l

def rtRow {α : Type} (xs : List T) (n : Nat) (K : List SV → Option α) : Option α :=
  match nth xs n with
  | some x => K (rt.cells x)
  | none => none

def rtSet {α : Type} (xs : List T) (n : Nat) (l : List SV) (K : List T → Option α) : Option α :=
  cond (Nat.blt n xs.length) (rt.ofK l fun x => K (nset xs n x)) none

def rtMk {α : Type} : List (List SV) → (List T → Option α) → Option α
  | [], K => K []
  | l :: ls, K => rt.ofK l fun x => rtMk ls fun xs => K (x :: xs)

def rtSub {α : Type} (xs : List T) (i n : Nat) (K : List T → Option α) : Option α :=
  cond (Nat.ble (i + n) xs.length) (K (seg xs i n)) none

def rtOv {α : Type} (xs : List T) (i : Nat) (ys : List T) (K : List T → Option α) : Option α :=
  cond (Nat.ble (i + ys.length) xs.length) (K (splice xs i ys)) none

variable {rt} {P : Program} (h : RTOk P rt)
include h

theorem rtCells_length : ∀ xs : List T, (rtCells rt xs).length = xs.length * rt.sz
  | [] => by simp [rtCells]
  | x :: l => by simp only [rtCells, List.length_append, h.len, rtCells_length l, List.length_cons, Nat.succ_mul]; omega

theorem rtCells_plain : ∀ xs : List T, ∀ s ∈ rtCells rt xs, s.plain = true
  | [], s, hs => by cases hs
  | x :: l, s, hs => by
    rcases List.mem_append.1 hs with hs | hs
    · exact h.plain x s hs
    · exact rtCells_plain l s hs

omit h in
theorem rtCells_append (rt : RT T) : ∀ xs ys : List T, rtCells rt (xs ++ ys) = rtCells rt xs ++ rtCells rt ys
  | [], ys => rfl
  | x :: l, ys => by simp only [List.cons_append, rtCells, rtCells_append rt l ys, List.append_assoc]

theorem rtCells_drop : ∀ (xs : List T) (n : Nat), rtCells rt (xs.drop n) = (rtCells rt xs).drop (n * rt.sz)
  | [], n => by simp [rtCells]
  | x :: l, 0 => by simp
  | x :: l, n + 1 => by
    simp only [List.drop_succ_cons, rtCells]
    rw [rtCells_drop l n, Nat.succ_mul, Nat.add_comm, ← List.drop_drop]
    congr 1
    rw [List.drop_append_of_le_length (by rw [h.len]; exact Nat.le_refl _), List.drop_of_length_le (by rw [h.len]; exact Nat.le_refl _), List.nil_append]

theorem rtCells_take : ∀ (xs : List T) (n : Nat), rtCells rt (xs.take n) = (rtCells rt xs).take (n * rt.sz)
  | [], n => by simp [rtCells]
  | x :: l, 0 => by simp [rtCells]
  | x :: l, n + 1 => by
    simp only [List.take_succ_cons, rtCells]
    rw [rtCells_take l n, Nat.succ_mul, Nat.add_comm, List.take_append, h.len, List.take_of_length_le (l := rt.cells x) (by rw [h.len]; omega)]
    rw [show rt.sz + n * rt.sz - rt.sz = n * rt.sz from by omega]

theorem rtCells_seg (xs : List T) (i n : Nat) : rtCells rt (seg xs i n) = seg (rtCells rt xs) (i * rt.sz) (n * rt.sz) := by
  unfold seg
  rw [rtCells_take h, rtCells_drop h]

theorem rtCells_row : ∀ (xs : List T) (n : Nat) (x : T), nth xs n = some x → rt.cells x = seg (rtCells rt xs) (n * rt.sz) rt.sz
  | [], _, _, e => by cases e
  | y :: l, 0, x, e => by
    cases e
    unfold seg
    simp only [Nat.zero_mul, List.drop_zero, rtCells]
    rw [List.take_append_of_le_length (by rw [h.len]; exact Nat.le_refl _), List.take_of_length_le (by rw [h.len]; exact Nat.le_refl _)]
  | y :: l, n + 1, x, e => by
    rw [rtCells_row l n x e]
    unfold seg
    congr 1
    rw [Nat.succ_mul, Nat.add_comm]
    simp only [rtCells]
    rw [← List.drop_drop, List.drop_append_of_le_length (by rw [h.len]; exact Nat.le_refl _), List.drop_of_length_le (l := rt.cells y) (by rw [h.len]; exact Nat.le_refl _), List.nil_append]

theorem rtCells_set : ∀ (xs : List T) (n : Nat) (x : T), n < xs.length → rtCells rt (nset xs n x) = splice (rtCells rt xs) (n * rt.sz) (rt.cells x)
  | [], _, _, e => by simp at e
  | y :: l, 0, x, e => by
    simp only [nset, rtCells]
    rw [splice_eq _ _ _ (by simp [h.len])]
    simp [h.len]
  | y :: l, n + 1, x, e => by
    have hn : n < l.length := by simpa using e
    have hb : n * rt.sz + rt.sz ≤ l.length * rt.sz := by rw [← Nat.succ_mul]; exact Nat.mul_le_mul_right _ hn
    simp only [nset, rtCells]
    rw [rtCells_set l n x hn]
    rw [splice_eq _ _ _ (by rw [rtCells_length h, h.len]; exact hb)]
    rw [splice_eq _ _ _ (by rw [List.length_append, rtCells_length h, h.len, h.len, Nat.succ_mul]; omega)]
    have h1 : (n + 1) * rt.sz = rt.sz + n * rt.sz := by rw [Nat.succ_mul]; omega
    rw [h1, List.take_append, h.len, List.take_of_length_le (l := rt.cells y) (by rw [h.len]; omega)]
    rw [List.drop_append, List.drop_of_length_le (l := rt.cells y) (by simp only [h.len]; omega)]
    simp only [h.len, List.nil_append, List.append_assoc]
    rw [show rt.sz + n * rt.sz - rt.sz = n * rt.sz from by omega, show rt.sz + n * rt.sz + rt.sz - rt.sz = n * rt.sz + rt.sz from by omega]

variable {α : Type}
theorem rtRow_ok {xs : List T} {n : Nat} {K : List SV → Option α} {r : α} (e : rtRow rt xs n K = some r) :
    ∃ l, K l = some r ∧ l.length = rt.sz ∧ n < xs.length ∧ l = seg (rtCells rt xs) (n * rt.sz) rt.sz := by
  unfold rtRow at e
  split at e
  · rename_i x hx
    exact ⟨_, e, h.len x, nth_lt hx, rtCells_row h xs n x hx⟩
  · cases e

theorem rtSet_ok {xs : List T} {n : Nat} {l : List SV} {K : List T → Option α} {r : α} (e : rtSet rt xs n l K = some r) :
    ∃ ys, K ys = some r ∧ ys.length = xs.length ∧ l.length = rt.sz ∧ n < xs.length ∧ rtCells rt ys = splice (rtCells rt xs) (n * rt.sz) l := by
  unfold rtSet at e
  obtain ⟨hn, e⟩ := cond_none_right e
  have hn : n < xs.length := by simpa [Nat.blt_eq] using hn
  obtain ⟨x, hK, rfl⟩ := h.of _ _ _ e
  exact ⟨_, hK, by simp, h.len x, hn, rtCells_set h xs n x hn⟩

theorem rtMk_ok : ∀ {ls : List (List SV)} {K : List T → Option α} {r : α}, rtMk rt ls K = some r → ∃ xs, K xs = some r ∧ xs.length = ls.length ∧ rtCells rt xs = ls.flatten ∧ ∀ l ∈ ls, l.length = rt.sz
  | [], K, r, e => ⟨[], e, rfl, rfl, fun l hl => by cases hl⟩
  | l :: ls, K, r, e => by
    unfold rtMk at e
    obtain ⟨x, e1, rfl⟩ := h.of _ _ _ e
    obtain ⟨xs, e2, h1, h2, h3⟩ := rtMk_ok e1
    refine ⟨_, e2, by simp [h1], by simp only [rtCells, h2, List.flatten_cons], fun l hl => ?_⟩
    rcases List.mem_cons.1 hl with rfl | hl
    · exact h.len x
    · exact h3 l hl

theorem rtSub_ok {xs : List T} {i n : Nat} {K : List T → Option α} {r : α} (e : rtSub xs i n K = some r) :
    ∃ ys, K ys = some r ∧ ys.length = n ∧ i + n ≤ xs.length ∧ rtCells rt ys = seg (rtCells rt xs) (i * rt.sz) (n * rt.sz) := by
  unfold rtSub at e
  obtain ⟨hn, e⟩ := cond_none_right e
  have hn := Nat.le_of_ble_eq_true hn
  exact ⟨_, e, seg_length xs i n hn, hn, rtCells_seg h xs i n⟩

theorem rtOv_ok {xs ys : List T} {i : Nat} {K : List T → Option α} {r : α} (e : rtOv xs i ys K = some r) :
    ∃ zs, K zs = some r ∧ zs.length = xs.length ∧ i + ys.length ≤ xs.length ∧ rtCells rt zs = splice (rtCells rt xs) (i * rt.sz) (rtCells rt ys) := by
  unfold rtOv at e
  obtain ⟨hn, e⟩ := cond_none_right e
  have hn := Nat.le_of_ble_eq_true hn
  refine ⟨_, e, splice_length xs i ys hn, hn, ?_⟩
  have hl : i * rt.sz + (rtCells rt ys).length ≤ (rtCells rt xs).length := by
    rw [rtCells_length h, rtCells_length h, ← Nat.add_mul]
    exact Nat.mul_le_mul_right _ hn
  rw [splice_eq _ _ _ hn, splice_eq _ _ _ hl, rtCells_append, rtCells_append]
  have h1 : rtCells rt (xs.take i) = (rtCells rt xs).take (i * rt.sz) := by
    have := rtCells_seg h xs 0 i
    simpa [seg] using this
  have h2 : rtCells rt (xs.drop (i + ys.length)) = (rtCells rt xs).drop (i * rt.sz + (rtCells rt ys).length) := by
    have := rtCells_seg h xs (i + ys.length) (xs.length - (i + ys.length))
    unfold seg at this
    rw [List.take_of_length_le (by simp), List.take_of_length_le (by rw [List.length_drop, rtCells_length h, Nat.sub_mul]; exact Nat.le_refl _)] at this
    rw [this, rtCells_length h, Nat.add_mul]
  rw [h1, h2]

omit h in
theorem rtCells_replicate (rt : RT T) (x : T) : ∀ n, rtCells rt (List.replicate n x) = (List.replicate n (rt.cells x)).flatten
  | 0 => rfl
  | n + 1 => by simp only [List.replicate_succ, rtCells, List.flatten_cons, rtCells_replicate rt x n]
end

def rtInt (t : TypeId) (k : IntKind) : RT Int where
  elt := t
  sz := 1
  cells := fun x => [.int k x]
  ofK := fun l K => match l with
    | [.int k' x] => cond (decide (k' = k)) (K x) none
    | _ => none

theorem rtInt_ok {P : Program} {t : TypeId} {k : IntKind} (h : ∃ inf, P.info? t = some inf ∧ inf.size = 1) : RTOk P (rtInt t k) where
  len := fun _ => rfl
  plain := fun x s hs => by rw [List.mem_singleton.1 hs]; rfl
  of := fun l K r e => by
    simp only [rtInt] at e ⊢
    split at e
    · rename_i k' x
      obtain ⟨hk, e2⟩ := cond_none_right e
      have hk := of_decide_eq_true hk
      subst hk
      exact ⟨x, e2, rfl⟩
    · cases e
  info := let ⟨inf, h1, h2⟩ := h; ⟨inf, h1, h2, Nat.one_pos⟩

def rtStr (t : TypeId) : RT ByteArray where
  elt := t
  sz := 1
  cells := fun x => [.str x]
  ofK := fun l K => match l with
    | [.str x] => K x
    | _ => none

theorem rtStr_ok {P : Program} {t : TypeId} (h : ∃ inf, P.info? t = some inf ∧ inf.size = 1) : RTOk P (rtStr t) where
  len := fun _ => rfl
  plain := fun x s hs => by rw [List.mem_singleton.1 hs]; rfl
  of := fun l K r e => by
    simp only [rtStr] at e ⊢
    split at e
    · exact ⟨_, e, rfl⟩
    · cases e
  info := let ⟨inf, h1, h2⟩ := h; ⟨inf, h1, h2, Nat.one_pos⟩

def rtBool (t : TypeId) : RT Bool where
  elt := t
  sz := 1
  cells := fun x => [.bool x]
  ofK := fun l K => match l with
    | [.bool x] => K x
    | _ => none

theorem rtBool_ok {P : Program} {t : TypeId} (h : ∃ inf, P.info? t = some inf ∧ inf.size = 1) : RTOk P (rtBool t) where
  len := fun _ => rfl
  plain := fun x s hs => by rw [List.mem_singleton.1 hs]; rfl
  of := fun l K r e => by
    simp only [rtBool] at e ⊢
    split at e
    · exact ⟨_, e, rfl⟩
    · cases e
  info := let ⟨inf, h1, h2⟩ := h; ⟨inf, h1, h2, Nat.one_pos⟩

def toBytes (l : List Int) : ByteArray := ⟨(l.map fun x => UInt8.ofNat x.toNat).toArray⟩
def ofBytes (s : ByteArray) : List Int := s.data.toList.map fun c => (c.toNat : Int)

def elemK {T α : Type} (xs : List T) (n : Nat) (K : T → Option α) : Option α :=
  match nth xs n with
  | some x => K x
  | none => none

theorem rtInt_map (t : TypeId) (k : IntKind) : ∀ l : List Int, rtCells (rtInt t k) l = l.map (.int k ·)
  | [] => rfl
  | x :: l => by
    show (rtInt t k).cells x ++ rtCells (rtInt t k) l = _
    rw [rtInt_map t k l]; rfl
end Go.Eng
