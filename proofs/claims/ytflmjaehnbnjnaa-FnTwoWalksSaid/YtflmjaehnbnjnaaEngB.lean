import Derived.Test.YtflmjaehnbnjnaaEngA
set_option linter.all false
namespace Go.Eng
open Go Go.RowKit

section
variable {α : Type}
theorem nth_eq (l : List α) (n : Nat) : nth l n = l[n]? := by
  induction l generalizing n with
  | nil => simp [nth]
  | cons a l ih => cases n <;> simp [nth, ih]
theorem nth_lt {l : List α} {n : Nat} {x : α} (h : nth l n = some x) : n < l.length := by
  rw [nth_eq] at h; exact (List.getElem?_eq_some_iff.1 h).1
theorem nset_eq (l : List α) (n : Nat) (x : α) : nset l n x = l.set n x := by
  induction l generalizing n with
  | nil => simp [nset]
  | cons a l ih => cases n <;> simp [nset, ih]
@[simp] theorem nset_length (l : List α) (n : Nat) (x : α) : (nset l n x).length = l.length := by simp [nset_eq]
theorem nth_nset (l : List α) (n m : Nat) (x : α) : nth (nset l n x) m = if m = n ∧ n < l.length then some x else nth l m := by
  simp only [nth_eq, nset_eq, List.getElem?_set]
  by_cases h : n = m
  · subst h
    by_cases h2 : n < l.length
    · simp [h2]
    · simp [h2]
  · rw [if_neg h, if_neg (fun e : m = n ∧ n < l.length => h e.1.symm)]
theorem nth_append (l m : List α) (n : Nat) : nth (l ++ m) n = if n < l.length then nth l n else nth m (n - l.length) := by
  simp only [nth_eq, List.getElem?_append]
theorem nth_append_left {l m : List α} {n : Nat} {x : α} (h : nth l n = some x) : nth (l ++ m) n = some x := by
  rw [nth_append, if_pos (nth_lt h)]; exact h
theorem nth_last (l : List α) (x : α) : nth (l ++ [x]) l.length = some x := by
  rw [nth_append, if_neg (by omega)]; simp [nth]
theorem splice_eq : ∀ (l : List α) (n : Nat) (xs : List α), n + xs.length ≤ l.length → splice l n xs = l.take n ++ xs ++ l.drop (n + xs.length)
  | l, 0, [], _ => by simp [splice]
  | [], 0, x :: xs, h => by simp at h
  | [], n + 1, xs, h => by simp at h
  | a :: l, 0, x :: xs, h => by
    simp only [splice]
    rw [splice_eq l 0 xs (by simp at h ⊢; omega)]
    simp
  | a :: l, n + 1, xs, h => by
    simp only [splice]
    rw [splice_eq l n xs (by simp at h ⊢; omega)]
    simp [Nat.add_right_comm]
theorem splice_length (l : List α) (n : Nat) (xs : List α) (h : n + xs.length ≤ l.length) : (splice l n xs).length = l.length := by
  rw [splice_eq l n xs h]; simp; omega
theorem nth_splice (l : List α) (n : Nat) (xs : List α) (h : n + xs.length ≤ l.length) (m : Nat) :
    nth (splice l n xs) m = if n ≤ m ∧ m < n + xs.length then nth xs (m - n) else nth l m := by
  rw [splice_eq l n xs h]
  simp only [nth_eq, List.getElem?_append, List.length_append, List.length_take]
  split
  · rename_i h1
    split
    · rename_i h2
      rw [if_neg (by omega), List.getElem?_take, if_pos (by omega)]
    · rename_i h2
      rw [if_pos (by omega)]; congr 1; omega
  · rename_i h1
    rw [if_neg (by omega), List.getElem?_drop]; congr 1; omega
theorem nth_seg (l : List α) (n k m : Nat) : nth (seg l n k) m = if m < k then nth l (n + m) else none := by
  simp only [nth_eq, seg, List.getElem?_take, List.getElem?_drop]
theorem seg_length (l : List α) (n k : Nat) (h : n + k ≤ l.length) : (seg l n k).length = k := by simp [seg]; omega
theorem ext_nth {l m : List α} (h : ∀ n, nth l n = nth m n) : l = m := List.ext_getElem? fun n => by simpa [nth_eq] using h n
theorem splice_seg (l : List α) (n k f : Nat) (xs : List α) (h1 : n + k ≤ l.length) (h2 : f + xs.length ≤ k) : splice l n (splice (seg l n k) f xs) = splice l (n + f) xs := by
  have hs : (seg l n k).length = k := seg_length l n k h1
  have hl : (splice (seg l n k) f xs).length = k := by rw [splice_length _ _ _ (by omega), hs]
  refine ext_nth fun m => ?_
  rw [nth_splice l n (splice (seg l n k) f xs) (by omega) m, nth_splice l (n + f) xs (by omega) m, hl]
  by_cases a : n ≤ m ∧ m < n + k
  · rw [if_pos a, nth_splice (seg l n k) f xs (by omega) (m - n), nth_seg]
    by_cases b : f ≤ m - n ∧ m - n < f + xs.length
    · rw [if_pos b, if_pos (by omega)]; congr 1; omega
    · rw [if_neg b, if_pos (by omega), if_neg (by omega)]; congr 1; omega
  · rw [if_neg a, if_neg (by omega)]
theorem nth_map {β : Type} (f : α → β) (l : List α) (n : Nat) : nth (l.map f) n = (nth l n).map f := by simp [nth_eq]
theorem nth_none {l : List α} {n : Nat} (h : l.length ≤ n) : nth l n = none := by rw [nth_eq]; simp [h]
theorem nth_some {l : List α} {n : Nat} (h : n < l.length) : ∃ x, nth l n = some x := by rw [nth_eq]; exact ⟨l[n], by simp [h]⟩
end

def All2 {α β : Type} (p : α → β → Prop) : List α → List β → Prop
  | [], [] => True
  | a :: l, b :: m => p a b ∧ All2 p l m
  | _, _ => False

section
variable {α β : Type} {p q : α → β → Prop}
theorem All2.length : ∀ {l : List α} {m : List β}, All2 p l m → l.length = m.length
  | [], [], _ => rfl
  | _ :: _, _ :: _, h => by simp [All2.length h.2]
  | [], _ :: _, h => h.elim
  | _ :: _, [], h => h.elim
theorem All2.mono (hpq : ∀ a b, p a b → q a b) : ∀ {l : List α} {m : List β}, All2 p l m → All2 q l m
  | [], [], _ => trivial
  | _ :: _, _ :: _, h => ⟨hpq _ _ h.1, All2.mono hpq h.2⟩
  | [], _ :: _, h => h.elim
  | _ :: _, [], h => h.elim
theorem All2.nth : ∀ {l : List α} {m : List β} {n : Nat} {a : α}, All2 p l m → Eng.nth l n = some a → ∃ b, m[n]? = some b ∧ p a b
  | a :: l, b :: m, 0, _, h, e => by cases e; exact ⟨b, rfl, h.1⟩
  | a :: l, b :: m, n + 1, _, h, e => by simpa using All2.nth (n := n) h.2 e
  | [], _, n, _, _, e => by simp [Eng.nth] at e
  | _ :: _, [], _, _, h, _ => h.elim
theorem All2.of_nth : ∀ {l : List α} {m : List β}, l.length = m.length → (∀ n a, Eng.nth l n = some a → ∃ b, m[n]? = some b ∧ p a b) → All2 p l m
  | [], [], _, _ => trivial
  | a :: l, b :: m, hl, h => ⟨by obtain ⟨b', e, hp⟩ := h 0 a rfl; simp at e; exact e ▸ hp,
      All2.of_nth (by simpa using hl) fun n a' e => by simpa using h (n + 1) a' e⟩
  | [], _ :: _, hl, _ => by simp at hl
  | _ :: _, [], hl, _ => by simp at hl
theorem All2.append : ∀ {l l' : List α} {m m' : List β}, All2 p l m → All2 p l' m' → All2 p (l ++ l') (m ++ m')
  | [], _, [], _, _, h => h
  | _ :: _, _, _ :: _, _, h, h' => ⟨h.1, All2.append h.2 h'⟩
  | [], _, _ :: _, _, h, _ => h.elim
  | _ :: _, _, [], _, h, _ => h.elim
end

structure Loc where
  b : Nat
  base : Nat
  n : Nat
  sz : Nat
  len : Nat

inductive PE where
  | dead
  | virt
  | abs
  | at (L : Loc)

def SlcAt (L : Loc) (w : Option (Nat × Nat × Nat)) (v : Value) : Prop :=
  match w with
  | none => ∃ cap, v = .slice (some ⟨L.b, L.base, none⟩) L.len cap ∧ L.len ≤ cap ∧ L.base + cap * L.sz ≤ L.n
  | some (r, n, e) => ∃ off cap, v = .slice (some ⟨L.b, off, none⟩) n cap ∧ n + e ≤ cap ∧ (cap = 0 ∨ off = L.base + r * L.sz) ∧ off + cap * L.sz ≤ L.n

def winNil (w : Option (Nat × Nat × Nat)) : Prop :=
  match w with
  | none => True
  | some (_, n, e) => n = 0 ∧ e = 0

def RP (φ : List PE) (id row fld : Nat) (v : Value) : Prop :=
  v.oneCell' = true ∧ match nth φ id with
  | some .dead => True
  | some (.at L) => v = .pointer (some ⟨L.b, L.base + row * L.sz + fld, none⟩)
  | _ => False

def RS (φ : List PE) (s : SV) (v : Value) : Prop :=
  match s with
  | .bool b => v = .bool b
  | .int k n => v = .int k n
  | .str s => v = .string s
  | .ptr id row fld => RP φ id row fld v
  | .nilp => v = .pointer none
  | .slc id w nl => v.oneCell' = true ∧ match nth φ id with
    | some .dead => True
    | some .virt => v = .slice none 0 0 ∧ nl = true ∧ winNil w
    | some (.at L) => nl = false ∧ SlcAt L w v
    | some .abs => False
    | none => False
  | .fn f caps => ∃ cv : List Value, v = .func (.func f) #[] cv.toArray ∧ All2 (fun c v => RP φ c.1 c.2.1 c.2.2 v) caps cv
  | .nilf => v = .nilFunc
  | .nili => v = .nilIface
  | .top => v.oneCell' = true

def RC (φ : List PE) (x : Bool × List SV) (v : Value) : Prop :=
  match x.1 with
  | true => ∃ cs : List Value, v = .agg cs.toArray ∧ All2 (RS φ) x.2 cs
  | false => ∃ s, x.2 = [s] ∧ RS φ s v

def RA (φ : List PE) (a : AV) (v : Value) : Prop :=
  match a with
  | .sc s => RS φ s v
  | .agg l => ∃ cs : List Value, v = .agg cs.toArray ∧ All2 (RS φ) l cs
  | .tup l => ∃ cs : List Value, v = .tuple cs.toArray ∧ All2 (RC φ) l cs

theorem RS.one {φ : List PE} {s : SV} {v : Value} (h : RS φ s v) : v.oneCell' = true := by
  cases s with
  | slc id w nl => exact h.1
  | ptr id row fld => exact h.1
  | top => exact h
  | fn f caps => obtain ⟨cv, rfl, _⟩ := h; rfl
  | _ => cases h; rfl

theorem RS.cells {φ : List PE} {s : SV} {v : Value} (h : RS φ s v) : v.cells = #[v] := by
  have := h.one
  cases v <;> first | rfl | (simp [Value.oneCell'] at this)

def Ext (φ φ' : List PE) : Prop := ∀ i pe, nth φ i = some pe → nth φ' i = some pe ∨ nth φ' i = some .dead

theorem Ext.refl (φ : List PE) : Ext φ φ := fun _ _ h => .inl h
theorem Ext.trans {a b c : List PE} (h : Ext a b) (k : Ext b c) : Ext a c := fun i pe e => by
  rcases h i pe e with h | h
  · exact k i pe h
  · rcases k i _ h with k | k <;> exact .inr k
theorem Ext.push (φ l : List PE) : Ext φ (φ ++ l) := fun _ _ h => .inl (nth_append_left h)

theorem RP.ext {φ φ' : List PE} (e : Ext φ φ') {id row fld : Nat} {v : Value} (h : RP φ id row fld v) : RP φ' id row fld v := by
  refine ⟨h.1, ?_⟩
  have h2 := h.2
  cases hp : nth φ id with
  | none => rw [hp] at h2; exact h2.elim
  | some pe =>
    rw [hp] at h2
    rcases e id pe hp with h3 | h3 <;> rw [h3]
    · exact h2
    · trivial
theorem RS.ext {φ φ' : List PE} (e : Ext φ φ') {s : SV} {v : Value} (h : RS φ s v) : RS φ' s v := by
  cases s with
  | ptr id row fld => exact RP.ext e h
  | slc id w nl =>
    refine ⟨h.1, ?_⟩
    have h2 := h.2
    cases hp : nth φ id with
    | none => rw [hp] at h2; exact h2.elim
    | some pe =>
      rw [hp] at h2
      rcases e id pe hp with h3 | h3 <;> rw [h3]
      · exact h2
      · trivial
  | fn f caps => obtain ⟨cv, hv, h⟩ := h; exact ⟨cv, hv, h.mono fun _ _ => RP.ext e⟩
  | _ => exact h
theorem RC.ext {φ φ' : List PE} (e : Ext φ φ') {s : Bool × List SV} {v : Value} (h : RC φ s v) : RC φ' s v := by
  obtain ⟨b, l⟩ := s
  cases b with
  | true => obtain ⟨cs, hv, h⟩ := h; exact ⟨cs, hv, h.mono fun _ _ => RS.ext e⟩
  | false => obtain ⟨s, hs, h⟩ := h; exact ⟨s, hs, RS.ext e h⟩
theorem RA.ext {φ φ' : List PE} (e : Ext φ φ') {s : AV} {v : Value} (h : RA φ s v) : RA φ' s v := by
  cases s with
  | sc s => exact RS.ext e h
  | agg l => obtain ⟨cs, hv, h⟩ := h; exact ⟨cs, hv, h.mono fun _ _ => RS.ext e⟩
  | tup l => obtain ⟨cs, hv, h⟩ := h; exact ⟨cs, hv, h.mono fun _ _ => RC.ext e⟩

def SV.plain : SV → Bool
  | .bool _ | .int _ _ | .str _ => true
  | _ => false

def SV.still : SV → Bool
  | .bool _ | .int _ _ | .str _ | .nilp | .nilf | .nili => true
  | _ => false

def zcOk : ZC → Value → Prop
  | .v x, v => x.still = true ∧ RS [] x v
  | .nils _, v => v = .slice none 0 0

def aggOf : TypeDesc → Bool
  | .struct _ | .array _ _ => true
  | _ => false

def shpOk (P : Program) (d : TypeDesc) : Shp → Prop
  | .bool => d = .bool
  | .int k => d = .int k
  | .str => d = .string
  | .slice e => d = .slice e
  | .array n e => d = .array n e
  | .struct fs => ∃ gs, d = .struct gs ∧ gs.size = fs.length ∧ ∀ j f, nth fs j = some f → ∃ g inf dg, gs[j]? = some g ∧ g.offset = f.off ∧ P.info? g.type = some inf ∧ inf.size = f.size ∧ P.underlying g.type = some dg ∧ aggOf dg = f.agg
  | .ptr => True
  | .func => True
  | .other => True

structure TyOk (P : Program) (t : TypeId) (ti : TI) : Prop where
  ok : ∃ inf d, P.info? t = some inf ∧ P.underlying t = some d ∧ inf.size = ti.size ∧ inf.bytes = ti.bytes ∧ aggOf d = ti.agg ∧ shpOk P d ti.shp ∧
    (∃ z, inf.zero = some z ∧ z.cells.size = ti.size ∧ All2 zcOk ti.zero z.cells.toList ∧ (ti.agg = true → ∃ cs, z = .agg cs)) ∧
    (∀ fs, ti.eqv = some fs → P.stoodInHeld t = false ∧ P.eqGuardType P.depth t = false ∧ ∃ gs : Array Field, d = .struct gs ∧ gs.size = fs.length ∧
      ∀ (j : Nat) (g : Field), gs[j]? = some g → g.name ≠ "_" ∧ g.offset = j ∧ ∃ dg s, P.underlying g.type = some dg ∧ nth fs j = some s ∧ shpOk P dg s)

structure EnvOk (E : Env) : Prop where
  mixed : E.P.follows .mixedOrders = true
  cells_len : ∀ b, (E.cells b).length = E.len b * E.sz b
  plain : ∀ b, ∀ s ∈ E.cells b, s.plain = true
  info : ∀ b, ∃ inf, E.P.info? (E.elt b) = some inf ∧ inf.size = E.sz b ∧ 0 < E.sz b
  rowK : ∀ {α : Type} b n (K : List SV → Option α) r, E.rowK b n K = some r → ∃ l, K l = some r ∧ l.length = E.sz b ∧ n < E.len b ∧ l = seg (E.cells b) (n * E.sz b) (E.sz b)
  setK : ∀ {α : Type} b n l (K : E.B → Option α) r, E.setK b n l K = some r → ∃ b', K b' = some r ∧ E.elt b' = E.elt b ∧ E.sz b' = E.sz b ∧ E.len b' = E.len b ∧ l.length = E.sz b ∧ n < E.len b ∧
    E.cells b' = splice (E.cells b) (n * E.sz b) l
  appK : ∀ {α : Type} a b (K : E.B → Option α) r, E.appK a b K = some r → ∃ c, K c = some r ∧ E.elt c = E.elt a ∧ E.sz c = E.sz a ∧ E.sz b = E.sz a ∧ E.len c = E.len a + E.len b ∧ E.cells c = E.cells a ++ E.cells b
  mkK : ∀ {α : Type} t ls (K : E.B → Option α) r, E.mkK t ls K = some r → ∃ b, K b = some r ∧ E.elt b = t ∧ E.len b = ls.length ∧ E.cells b = ls.flatten ∧ ∀ l ∈ ls, l.length = E.sz b
  zeroK : ∀ {α : Type} t n (K : E.B → Option α) r, E.zeroK t n K = some r → ∃ b, K b = some r ∧ E.elt b = t ∧ E.len b = n ∧ ∃ ti z, E.ty t = some ti ∧ ti.zero = z.map .v ∧ z.length = E.sz b ∧ E.cells b = (List.replicate n z).flatten
  subK : ∀ {α : Type} b i n (K : E.B → Option α) r, E.subK b i n K = some r → ∃ b', K b' = some r ∧ E.elt b' = E.elt b ∧ E.sz b' = E.sz b ∧ E.len b' = n ∧ i + n ≤ E.len b ∧ E.cells b' = seg (E.cells b) (i * E.sz b) (n * E.sz b)
  strK : ∀ {α : Type} b i n (K : ByteArray → Option α) r, E.strK b i n K = some r → ∃ ns : List Int, K ⟨(ns.map fun x => UInt8.ofNat x.toNat).toArray⟩ = some r ∧ E.sz b = 1 ∧ i + n ≤ E.len b ∧ ns.length = n ∧
    seg (E.cells b) i n = ns.map (.int .u8 ·)
  bytesK : ∀ {α : Type} t s (K : E.B → Option α) r, E.bytesK t s K = some r → ∃ b, K b = some r ∧ E.elt b = t ∧ E.sz b = 1 ∧ E.len b = s.size ∧ E.cells b = s.data.toList.map fun c => .int .u8 (c.toNat : Int)
  ovK : ∀ {α : Type} a i b (K : E.B → Option α) r, E.ovK a i b K = some r → ∃ a', K a' = some r ∧ E.elt a' = E.elt a ∧ E.sz a' = E.sz a ∧ E.len a' = E.len a ∧ E.sz b = E.sz a ∧ i + E.len b ≤ E.len a ∧ E.cells a' = splice (E.cells a) (i * E.sz a) (E.cells b)
  ty : ∀ t ti, E.ty t = some ti → TyOk E.P t ti

variable {E : Env}

def HB.fits (L : Loc) : HB E → Prop
  | .exp _ _ => True
  | .rows b => L.sz = E.sz b ∧ L.len = E.len b
  | .frz b => L.sz = E.sz b ∧ L.len = E.len b

def HB.typed (L : Loc) (t : TypeId) (n : Nat) : HB E → Prop
  | .rows b => t = E.elt b ∧ L.base = 0
  | .frz b => t = E.elt b ∧ L.base = 0
  | .exp (some T) l => t = T ∧ L.base = 0 ∧ n = l.length
  | .exp none _ => True

structure RB (φ : List PE) (he : HE E) (L : Loc) (w : World) : Prop where
  ok : ∃ c t fz, w.heap[L.b]? = some (.cells c t fz) ∧ c.size = L.n ∧ (∀ j s, nth he.b.cells j = some s → ∃ v, c[L.base + j]? = some v ∧ RS φ s v) ∧
    (he.ro = false → (he.b.frozen = false → ∀ o, o < c.size → (decide (fz.1 ≤ o) && decide (o < fz.2)) = false) ∧ he.b.typed L t c.size)
  fits : he.b.fits L

def Ent (φ : List PE) (w : World) (pe : PE) (x : Option (HE E)) : Prop :=
  match pe, x with
  | .at L, some he => RB φ he L w
  | .virt, some he => he.b.cells = [] ∧ ∃ b, he.b = .rows b
  | .dead, none => True
  | .abs, some _ => True
  | _, _ => False

structure RH (φ : List PE) (H : Hp E) (w : World) : Prop where
  len : φ.length = H.length
  ent : ∀ i pe x, nth φ i = some pe → nth H i = some x → Ent φ w pe x
  inj : ∀ i j L L' he, i ≠ j → nth φ i = some (.at L) → nth φ j = some (.at L') → nth H i = some (some he) → he.ro = false → L.b ≠ L'.b

end Go.Eng
