import Derived.Test.YtjimjkhpahegjaaEngY
import Derived.Test.YtjimjkhpahegjaaProg
namespace Go.Sa
open Go Go.Eng Go.Proofs

def tab : Tab := [
  (2, ⟨1, 8, false, [.v (.int .i64 0)], .int .i64, none⟩),
  (3, ⟨1, 8, false, [.v (.int .i64 0)], .int .i64, none⟩),
  (4, ⟨1, 1, false, [.v (.bool false)], .bool, none⟩),
  (5, ⟨1, 1, false, [.v (.int .u8 0)], .int .u8, none⟩),
  (6, ⟨1, 1, false, [.v (.int .u8 0)], .int .u8, none⟩),
  (7, ⟨4, 24, true, [.v (.int .i64 0), .v (.int .i64 0), .v (.bool false), .v (.int .u8 0)], .struct [⟨0, 1, false⟩, ⟨1, 1, false⟩, ⟨2, 1, false⟩, ⟨3, 1, false⟩], some [.int .i64, .int .i64, .bool, .int .u8]⟩),
  (8, ⟨4, 24, true, [.v (.int .i64 0), .v (.int .i64 0), .v (.bool false), .v (.int .u8 0)], .struct [⟨0, 1, false⟩, ⟨1, 1, false⟩, ⟨2, 1, false⟩, ⟨3, 1, false⟩], some [.int .i64, .int .i64, .bool, .int .u8]⟩),
  (9, ⟨1, 16, false, [.v (.str ⟨#[]⟩)], .str, none⟩),
  (10, ⟨1, 16, false, [.v (.str ⟨#[]⟩)], .str, none⟩),
  (11, ⟨1, 16, false, [.v (.str ⟨#[]⟩)], .str, none⟩),
  (12, ⟨1, 8, false, [.v (.int .u64 0)], .int .u64, none⟩),
  (21, ⟨1, 4, false, [.v (.int .i32 0)], .int .i32, none⟩),
  (22, ⟨4, 40, true, [.v (.int .i64 0), .v (.int .i64 0), .v (.int .i64 0), .v (.str ⟨#[]⟩)], .struct [⟨0, 1, false⟩, ⟨1, 1, false⟩, ⟨2, 1, false⟩, ⟨3, 1, false⟩], some [.int .i64, .int .i64, .int .i64, .str]⟩),
  (23, ⟨4, 40, true, [.v (.int .i64 0), .v (.int .i64 0), .v (.int .i64 0), .v (.str ⟨#[]⟩)], .struct [⟨0, 1, false⟩, ⟨1, 1, false⟩, ⟨2, 1, false⟩, ⟨3, 1, false⟩], some [.int .i64, .int .i64, .int .i64, .str]⟩),
  (26, ⟨4, 40, true, [.v (.int .i64 0), .v (.int .i64 0), .v (.int .i64 0), .v (.str ⟨#[]⟩)], .struct [⟨0, 1, false⟩, ⟨1, 1, false⟩, ⟨2, 1, false⟩, ⟨3, 1, false⟩], some [.int .i64, .int .i64, .int .i64, .str]⟩),
  (29, ⟨1, 24, false, [.nils 112], .slice 112, none⟩),
  (32, ⟨1, 24, false, [.nils 110], .slice 110, none⟩),
  (36, ⟨1, 24, false, [.nils 169], .slice 169, none⟩),
  (37, ⟨3, 40, true, [.v (.int .i64 0), .v (.int .i64 0), .nils 169], .struct [⟨0, 1, false⟩, ⟨1, 1, false⟩, ⟨2, 1, false⟩], none⟩),
  (38, ⟨3, 40, true, [.v (.int .i64 0), .v (.int .i64 0), .nils 169], .struct [⟨0, 1, false⟩, ⟨1, 1, false⟩, ⟨2, 1, false⟩], none⟩),
  (41, ⟨1, 24, false, [.nils 116], .slice 116, none⟩),
  (42, ⟨3, 40, true, [.v (.int .i64 0), .v (.int .i64 0), .nils 116], .struct [⟨0, 1, false⟩, ⟨1, 1, false⟩, ⟨2, 1, false⟩], none⟩),
  (43, ⟨3, 40, true, [.v (.int .i64 0), .v (.int .i64 0), .nils 116], .struct [⟨0, 1, false⟩, ⟨1, 1, false⟩, ⟨2, 1, false⟩], none⟩),
  (47, ⟨1, 24, false, [.nils 123], .slice 123, none⟩),
  (50, ⟨1, 24, false, [.nils 120], .slice 120, none⟩),
  (54, ⟨1, 24, false, [.nils 126], .slice 126, none⟩),
  (57, ⟨1, 24, false, [.nils 72], .slice 72, none⟩),
  (63, ⟨1, 24, false, [.nils 5], .slice 5, none⟩),
  (66, ⟨1, 24, false, [.nils 2], .slice 2, none⟩),
  (67, ⟨3, 56, true, [.v (.int .i64 0), .nils 2, .nils 2], .struct [⟨0, 1, false⟩, ⟨1, 1, false⟩, ⟨2, 1, false⟩], none⟩),
  (68, ⟨3, 56, true, [.v (.int .i64 0), .nils 2, .nils 2], .struct [⟨0, 1, false⟩, ⟨1, 1, false⟩, ⟨2, 1, false⟩], none⟩),
  (71, ⟨3, 24, true, [.v (.int .i64 0), .v (.int .i64 0), .v (.int .i64 0)], .struct [⟨0, 1, false⟩, ⟨1, 1, false⟩, ⟨2, 1, false⟩], some [.int .i64, .int .i64, .int .i64]⟩),
  (72, ⟨3, 24, true, [.v (.int .i64 0), .v (.int .i64 0), .v (.int .i64 0)], .struct [⟨0, 1, false⟩, ⟨1, 1, false⟩, ⟨2, 1, false⟩], some [.int .i64, .int .i64, .int .i64]⟩),
  (75, ⟨1, 24, false, [.nils 139], .slice 139, none⟩),
  (80, ⟨1, 24, false, [.nils 144], .slice 144, none⟩),
  (85, ⟨1, 24, false, [.nils 180], .slice 180, none⟩),
  (86, ⟨2, 40, true, [.nils 180, .v (.str ⟨#[]⟩)], .struct [⟨0, 1, false⟩, ⟨1, 1, false⟩], none⟩),
  (87, ⟨2, 40, true, [.nils 180, .v (.str ⟨#[]⟩)], .struct [⟨0, 1, false⟩, ⟨1, 1, false⟩], none⟩),
  (89, ⟨1, 24, false, [.nils 159], .slice 159, none⟩),
  (90, ⟨2, 40, true, [.nils 159, .v (.str ⟨#[]⟩)], .struct [⟨0, 1, false⟩, ⟨1, 1, false⟩], none⟩),
  (91, ⟨2, 40, true, [.nils 159, .v (.str ⟨#[]⟩)], .struct [⟨0, 1, false⟩, ⟨1, 1, false⟩], none⟩),
  (92, ⟨3, 48, true, [.v (.int .i64 0), .nils 159, .v (.str ⟨#[]⟩)], .struct [⟨0, 1, false⟩, ⟨1, 2, true⟩], none⟩),
  (93, ⟨3, 48, true, [.v (.int .i64 0), .nils 159, .v (.str ⟨#[]⟩)], .struct [⟨0, 1, false⟩, ⟨1, 2, true⟩], none⟩),
  (101, ⟨2, 16, true, [.v (.int .i64 0), .v (.int .i64 0)], .struct [⟨0, 1, false⟩, ⟨1, 1, false⟩], some [.int .i64, .int .i64]⟩),
  (102, ⟨2, 16, true, [.v (.int .i64 0), .v (.int .i64 0)], .struct [⟨0, 1, false⟩, ⟨1, 1, false⟩], some [.int .i64, .int .i64]⟩),
  (109, ⟨4, 32, true, [.v (.int .i64 0), .v (.int .i64 0), .v (.int .i64 0), .v (.int .i64 0)], .struct [⟨0, 1, false⟩, ⟨1, 1, false⟩, ⟨2, 1, false⟩, ⟨3, 1, false⟩], some [.int .i64, .int .i64, .int .i64, .int .i64]⟩),
  (110, ⟨4, 32, true, [.v (.int .i64 0), .v (.int .i64 0), .v (.int .i64 0), .v (.int .i64 0)], .struct [⟨0, 1, false⟩, ⟨1, 1, false⟩, ⟨2, 1, false⟩, ⟨3, 1, false⟩], some [.int .i64, .int .i64, .int .i64, .int .i64]⟩),
  (112, ⟨4, 32, true, [.v (.int .i64 0), .v (.int .i64 0), .v (.int .i64 0), .v (.int .i64 0)], .struct [⟨0, 1, false⟩, ⟨1, 1, false⟩, ⟨2, 1, false⟩, ⟨3, 1, false⟩], some [.int .i64, .int .i64, .int .i64, .int .i64]⟩),
  (115, ⟨3, 24, true, [.v (.int .i64 0), .v (.int .i64 0), .v (.int .i64 0)], .struct [⟨0, 1, false⟩, ⟨1, 1, false⟩, ⟨2, 1, false⟩], some [.int .i64, .int .i64, .int .i64]⟩),
  (116, ⟨3, 24, true, [.v (.int .i64 0), .v (.int .i64 0), .v (.int .i64 0)], .struct [⟨0, 1, false⟩, ⟨1, 1, false⟩, ⟨2, 1, false⟩], some [.int .i64, .int .i64, .int .i64]⟩),
  (119, ⟨9, 72, true, [.v (.int .i64 0), .v (.int .i64 0), .v (.int .i64 0), .v (.int .i64 0), .v (.bool false), .v (.int .i64 0), .v (.int .i64 0), .v (.int .i64 0), .v (.int .i64 0)], .struct [⟨0, 1, false⟩, ⟨1, 1, false⟩, ⟨2, 1, false⟩, ⟨3, 1, false⟩, ⟨4, 1, false⟩, ⟨5, 1, false⟩, ⟨6, 1, false⟩, ⟨7, 1, false⟩, ⟨8, 1, false⟩], some [.int .i64, .int .i64, .int .i64, .int .i64, .bool, .int .i64, .int .i64, .int .i64, .int .i64]⟩),
  (120, ⟨9, 72, true, [.v (.int .i64 0), .v (.int .i64 0), .v (.int .i64 0), .v (.int .i64 0), .v (.bool false), .v (.int .i64 0), .v (.int .i64 0), .v (.int .i64 0), .v (.int .i64 0)], .struct [⟨0, 1, false⟩, ⟨1, 1, false⟩, ⟨2, 1, false⟩, ⟨3, 1, false⟩, ⟨4, 1, false⟩, ⟨5, 1, false⟩, ⟨6, 1, false⟩, ⟨7, 1, false⟩, ⟨8, 1, false⟩], some [.int .i64, .int .i64, .int .i64, .int .i64, .bool, .int .i64, .int .i64, .int .i64, .int .i64]⟩),
  (121, ⟨1, 8, false, [.v (.int .u64 0)], .int .u64, none⟩),
  (123, ⟨9, 72, true, [.v (.int .i64 0), .v (.int .i64 0), .v (.int .i64 0), .v (.int .i64 0), .v (.bool false), .v (.int .i64 0), .v (.int .i64 0), .v (.int .i64 0), .v (.int .i64 0)], .struct [⟨0, 1, false⟩, ⟨1, 1, false⟩, ⟨2, 1, false⟩, ⟨3, 1, false⟩, ⟨4, 1, false⟩, ⟨5, 1, false⟩, ⟨6, 1, false⟩, ⟨7, 1, false⟩, ⟨8, 1, false⟩], some [.int .i64, .int .i64, .int .i64, .int .i64, .bool, .int .i64, .int .i64, .int .i64, .int .i64]⟩),
  (126, ⟨3, 24, true, [.v (.int .i64 0), .v (.int .i64 0), .v (.int .i64 0)], .struct [⟨0, 1, false⟩, ⟨1, 1, false⟩, ⟨2, 1, false⟩], some [.int .i64, .int .i64, .int .i64]⟩),
  (137, ⟨1, 8, false, [.v (.int .u64 0)], .int .u64, none⟩),
  (138, ⟨3, 40, true, [.v (.str ⟨#[]⟩), .v (.int .i64 0), .v (.str ⟨#[]⟩)], .struct [⟨0, 1, false⟩, ⟨1, 1, false⟩, ⟨2, 1, false⟩], some [.str, .int .i64, .str]⟩),
  (139, ⟨3, 40, true, [.v (.str ⟨#[]⟩), .v (.int .i64 0), .v (.str ⟨#[]⟩)], .struct [⟨0, 1, false⟩, ⟨1, 1, false⟩, ⟨2, 1, false⟩], some [.str, .int .i64, .str]⟩),
  (144, ⟨3, 40, true, [.v (.str ⟨#[]⟩), .v (.int .i64 0), .v (.str ⟨#[]⟩)], .struct [⟨0, 1, false⟩, ⟨1, 1, false⟩, ⟨2, 1, false⟩], some [.str, .int .i64, .str]⟩),
  (158, ⟨3, 40, true, [.v (.int .i64 0), .v (.str ⟨#[]⟩), .v (.str ⟨#[]⟩)], .struct [⟨0, 1, false⟩, ⟨1, 1, false⟩, ⟨2, 1, false⟩], some [.int .i64, .str, .str]⟩),
  (159, ⟨3, 40, true, [.v (.int .i64 0), .v (.str ⟨#[]⟩), .v (.str ⟨#[]⟩)], .struct [⟨0, 1, false⟩, ⟨1, 1, false⟩, ⟨2, 1, false⟩], some [.int .i64, .str, .str]⟩),
  (169, ⟨3, 24, true, [.v (.int .i64 0), .v (.int .i64 0), .v (.int .i64 0)], .struct [⟨0, 1, false⟩, ⟨1, 1, false⟩, ⟨2, 1, false⟩], some [.int .i64, .int .i64, .int .i64]⟩),
  (173, ⟨1, 24, false, [.nils 9], .slice 9, none⟩),
  (175, ⟨1, 4, false, [.v (.int .u32 0)], .int .u32, none⟩),
  (176, ⟨4, 48, true, [.nils 5, .v (.int .i64 0), .v (.int .u64 0), .v (.int .i64 0)], .struct [⟨0, 1, false⟩, ⟨1, 1, false⟩, ⟨2, 1, false⟩, ⟨3, 1, false⟩], none⟩),
  (177, ⟨4, 48, true, [.nils 5, .v (.int .i64 0), .v (.int .u64 0), .v (.int .i64 0)], .struct [⟨0, 1, false⟩, ⟨1, 1, false⟩, ⟨2, 1, false⟩, ⟨3, 1, false⟩], none⟩),
  (180, ⟨3, 40, true, [.v (.int .i64 0), .v (.str ⟨#[]⟩), .v (.str ⟨#[]⟩)], .struct [⟨0, 1, false⟩, ⟨1, 1, false⟩, ⟨2, 1, false⟩], some [.int .i64, .str, .str]⟩),
  (207, ⟨0, 0, true, [], .array 0 16, none⟩),
  (208, ⟨0, 0, true, [], .struct [⟨0, 0, true⟩], none⟩),
  (209, ⟨0, 0, true, [], .struct [⟨0, 0, true⟩], none⟩),
  (211, ⟨1, 1, false, [.v (.int .u8 0)], .int .u8, none⟩),
  (212, ⟨1, 1, false, [.v (.int .u8 0)], .int .u8, none⟩),
  (214, ⟨1, 4, false, [.v (.int .i32 0)], .int .i32, none⟩),
  (215, ⟨1, 4, false, [.v (.int .i32 0)], .int .i32, none⟩)]
theorem tab_ok : tab.all (fun x => tyIs Try.prog x.1 x.2) = true := by kernel_rfl

inductive B where
  | i64 (l : List Int)
  | u8 (l : List Int)

abbrev ri64 : RT Int := rtInt 2 .i64
abbrev ru8 : RT Int := rtInt 5 .u8
def B.elt : B → TypeId
  | .i64 _ => 2
  | .u8 _ => 5
def B.sz : B → Nat
  | .i64 _ => 1
  | .u8 _ => 1
def B.cells : B → List SV
  | .i64 l => rtCells ri64 l
  | .u8 l => rtCells ru8 l
def B.len : B → Nat
  | .i64 l => l.length
  | .u8 l => l.length
section
variable {α : Type}
def B.rowK : B → Nat → (List SV → Option α) → Option α
  | .i64 l, n, K => rtRow ri64 l n K
  | .u8 l, n, K => rtRow ru8 l n K
def B.setK : B → Nat → List SV → (B → Option α) → Option α
  | .i64 l, n, v, K => rtSet ri64 l n v fun l => K (.i64 l)
  | .u8 l, n, v, K => rtSet ru8 l n v fun l => K (.u8 l)
def B.appK : B → B → (B → Option α) → Option α
  | .i64 a, .i64 b, K => K (.i64 (a ++ b))
  | .u8 a, .u8 b, K => K (.u8 (a ++ b))
  | _, _, _ => none
def B.mkK (t : TypeId) (ls : List (List SV)) (K : B → Option α) : Option α := cond (Nat.beq t 2) (rtMk ri64 ls fun l => K (.i64 l)) (cond (Nat.beq t 5) (rtMk ru8 ls fun l => K (.u8 l)) (none))
def B.zeroK (t : TypeId) (n : Nat) (K : B → Option α) : Option α := cond (Nat.beq t 2) (K (.i64 (List.replicate n 0))) (cond (Nat.beq t 5) (K (.u8 (List.replicate n 0))) (none))
def B.subK : B → Nat → Nat → (B → Option α) → Option α
  | .i64 l, i, n, K => rtSub l i n fun l => K (.i64 l)
  | .u8 l, i, n, K => rtSub l i n fun l => K (.u8 l)
def toBytes (l : List Int) : ByteArray := ⟨(l.map fun x => UInt8.ofNat x.toNat).toArray⟩
def ofBytes (s : ByteArray) : List Int := s.data.toList.map fun c => (c.toNat : Int)
def B.strK : B → Nat → Nat → (ByteArray → Option α) → Option α
  | .u8 l, i, n, K => cond (Nat.ble (i + n) l.length) (K (toBytes (seg l i n))) none
  | _, _, _, _ => none
def B.bytesK (t : TypeId) (s : ByteArray) (K : B → Option α) : Option α := cond (Nat.beq t 5) (K (.u8 (ofBytes s))) (none)
end
noncomputable def E : Env where
  P := Try.prog
  B := B
  elt := B.elt
  sz := B.sz
  cells := B.cells
  len := B.len
  rowK := B.rowK
  setK := B.setK
  appK := B.appK
  mkK := B.mkK
  zeroK := B.zeroK
  subK := B.subK
  strK := B.strK
  bytesK := B.bytesK
  ty := fun t => tabLook t tab

theorem ri64_ok : RTOk Try.prog ri64 := rtInt_ok ⟨Try.t2, by kernel_rfl, by kernel_rfl⟩
theorem ru8_ok : RTOk Try.prog ru8 := rtInt_ok ⟨Try.t5, by kernel_rfl, by kernel_rfl⟩
section
variable {α : Type}
theorem B.rowK_ok {b : B} {n : Nat} {K : List SV → Option α} {r : α} (h : b.rowK n K = some r) : ∃ l, K l = some r ∧ l.length = b.sz ∧ n < b.len ∧ l = seg b.cells (n * b.sz) b.sz := by
  cases b
  · exact rtRow_ok ri64_ok h
  · exact rtRow_ok ru8_ok h
theorem B.setK_ok {b : B} {n : Nat} {l : List SV} {K : B → Option α} {r : α} (h : b.setK n l K = some r) : ∃ b', K b' = some r ∧ b'.elt = b.elt ∧ b'.sz = b.sz ∧ b'.len = b.len ∧ l.length = b.sz ∧ n < b.len ∧ b'.cells = splice b.cells (n * b.sz) l := by
  cases b
  · unfold B.setK at h
    obtain ⟨ys, hK, h1, h2, h3, h4⟩ := rtSet_ok ri64_ok h
    exact ⟨.i64 ys, hK, rfl, rfl, h1, h2, h3, h4⟩
  · unfold B.setK at h
    obtain ⟨ys, hK, h1, h2, h3, h4⟩ := rtSet_ok ru8_ok h
    exact ⟨.u8 ys, hK, rfl, rfl, h1, h2, h3, h4⟩
theorem B.appK_ok {a b : B} {K : B → Option α} {r : α} (h : a.appK b K = some r) : ∃ c, K c = some r ∧ c.elt = a.elt ∧ c.sz = a.sz ∧ b.sz = a.sz ∧ c.len = a.len + b.len ∧ c.cells = a.cells ++ b.cells := by
  cases a <;> cases b <;> first | (unfold B.appK at h; cases h; done) | exact ⟨_, h, rfl, rfl, rfl, List.length_append, rtCells_append _ _ _⟩
theorem B.mkK_ok {t : TypeId} {ls : List (List SV)} {K : B → Option α} {r : α} (h : B.mkK t ls K = some r) : ∃ b, K b = some r ∧ b.elt = t ∧ b.len = ls.length ∧ b.cells = ls.flatten ∧ ∀ l ∈ ls, l.length = b.sz := by
  unfold B.mkK at h
  rcases cond_some h with ⟨e0, h0⟩ | ⟨_, h0⟩
  · obtain ⟨xs, hK, h1, h2, h3⟩ := rtMk_ok ri64_ok h0
    exact ⟨_, hK, (Nat.eq_of_beq_eq_true e0).symm, h1, h2, h3⟩
  rcases cond_some h0 with ⟨e1, h1⟩ | ⟨_, h1⟩
  · obtain ⟨xs, hK, h1, h2, h3⟩ := rtMk_ok ru8_ok h1
    exact ⟨_, hK, (Nat.eq_of_beq_eq_true e1).symm, h1, h2, h3⟩
  cases h1
theorem B.zeroK_ok {t : TypeId} {n : Nat} {K : B → Option α} {r : α} (h : B.zeroK t n K = some r) : ∃ b, K b = some r ∧ b.elt = t ∧ b.len = n ∧ ∃ ti z, tabLook t tab = some ti ∧ ti.zero = z.map .v ∧ z.length = b.sz ∧ b.cells = (List.replicate n z).flatten := by
  unfold B.zeroK at h
  rcases cond_some h with ⟨e0, h0⟩ | ⟨_, h0⟩
  · have e := Nat.eq_of_beq_eq_true e0
    subst e
    exact ⟨_, h0, rfl, List.length_replicate, _, [.int .i64 0], rfl, rfl, rfl, rtCells_replicate _ _ _⟩
  rcases cond_some h0 with ⟨e1, h1⟩ | ⟨_, h1⟩
  · have e := Nat.eq_of_beq_eq_true e1
    subst e
    exact ⟨_, h1, rfl, List.length_replicate, _, [.int .u8 0], rfl, rfl, rfl, rtCells_replicate _ _ _⟩
  cases h1
theorem B.subK_ok {b : B} {i n : Nat} {K : B → Option α} {r : α} (h : b.subK i n K = some r) : ∃ b', K b' = some r ∧ b'.elt = b.elt ∧ b'.sz = b.sz ∧ b'.len = n ∧ i + n ≤ b.len ∧ b'.cells = seg b.cells (i * b.sz) (n * b.sz) := by
  cases b
  · unfold B.subK at h
    obtain ⟨ys, hK, h1, h2, h3⟩ := rtSub_ok ri64_ok h
    exact ⟨.i64 ys, hK, rfl, rfl, h1, h2, h3⟩
  · unfold B.subK at h
    obtain ⟨ys, hK, h1, h2, h3⟩ := rtSub_ok ru8_ok h
    exact ⟨.u8 ys, hK, rfl, rfl, h1, h2, h3⟩
theorem B.strK_ok {b : B} {i n : Nat} {K : ByteArray → Option α} {r : α} (h : b.strK i n K = some r) : ∃ ns : List Int, K ⟨(ns.map fun x => UInt8.ofNat x.toNat).toArray⟩ = some r ∧ b.sz = 1 ∧ i + n ≤ b.len ∧ ns.length = n ∧ seg b.cells i n = ns.map (.int .u8 ·) := by
  cases b
  · cases h
  · unfold B.strK at h
    obtain ⟨hn, hK⟩ := cond_none_right h
    have hn := Nat.le_of_ble_eq_true hn
    refine ⟨seg _ i n, hK, rfl, hn, seg_length _ _ _ hn, ?_⟩
    have h1 := rtCells_seg ru8_ok ‹_› i n
    simp only [rtInt, Nat.mul_one] at h1
    exact h1.symm.trans (rtInt_map _ _ _)
theorem B.bytesK_ok {t : TypeId} {s : ByteArray} {K : B → Option α} {r : α} (h : B.bytesK t s K = some r) : ∃ b, K b = some r ∧ b.elt = t ∧ b.sz = 1 ∧ b.len = s.size ∧ b.cells = s.data.toList.map fun c => .int .u8 (c.toNat : Int) := by
  unfold B.bytesK at h
  rcases cond_some h with ⟨e0, h0⟩ | ⟨_, h0⟩
  · refine ⟨_, h0, (Nat.eq_of_beq_eq_true e0).symm, rfl, (List.length_map _).trans Array.length_toList, (rtInt_map _ _ _).trans ?_⟩
    unfold ofBytes
    rw [List.map_map]
    rfl
  cases h0
end
theorem B.cells_len (b : B) : b.cells.length = b.len * b.sz := by
  cases b
  · exact rtCells_length ri64_ok _
  · exact rtCells_length ru8_ok _
theorem B.plain (b : B) : ∀ s ∈ b.cells, s.plain = true := by
  cases b
  · exact rtCells_plain ri64_ok _
  · exact rtCells_plain ru8_ok _
theorem B.info (b : B) : ∃ inf, E.P.info? b.elt = some inf ∧ inf.size = b.sz ∧ 0 < b.sz := by
  cases b
  · exact ri64_ok.info
  · exact ru8_ok.info
theorem ok : EnvOk E where
  mixed := by kernel_rfl
  cells_len := B.cells_len
  plain := B.plain
  info := B.info
  rowK := fun _ _ _ _ h => B.rowK_ok h
  setK := fun _ _ _ _ _ h => B.setK_ok h
  appK := fun _ _ _ _ h => B.appK_ok h
  mkK := fun _ _ _ _ h => B.mkK_ok h
  zeroK := fun _ _ _ _ h => B.zeroK_ok h
  subK := fun _ _ _ _ _ h => B.subK_ok h
  strK := fun _ _ _ _ _ h => B.strK_ok h
  bytesK := fun _ _ _ _ h => B.bytesK_ok h
  ty := fun _ _ h => tabLook_ok tab_ok h
end Go.Sa
