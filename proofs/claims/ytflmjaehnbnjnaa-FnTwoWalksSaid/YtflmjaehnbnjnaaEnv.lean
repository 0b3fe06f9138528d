import Derived.Test.YtflmjaehnbnjnaaOpn
import Derived.Test.YtflmjaehnbnjnaaProg
set_option linter.all false
namespace Go.Sa
open Go Go.Eng Go.Proofs
set_option maxRecDepth 100000

def tab : Tab := [
  (1, ⟨1, 8, false, [.v .nilf], .other, none⟩),
  (2, ⟨1, 8, false, [.v (.int .i64 0)], .int .i64, none⟩),
  (3, ⟨1, 8, false, [.v (.int .i64 0)], .int .i64, none⟩),
  (4, ⟨1, 1, false, [.v (.bool false)], .bool, none⟩),
  (5, ⟨1, 1, false, [.v (.int .u8 0)], .int .u8, none⟩),
  (6, ⟨1, 1, false, [.v (.int .u8 0)], .int .u8, none⟩),
  (7, ⟨4, 24, true, [.v (.int .i64 0), .v (.int .i64 0), .v (.bool false), .v (.int .u8 0)], .struct [⟨0, 1, false⟩, ⟨1, 1, false⟩, ⟨2, 1, false⟩, ⟨3, 1, false⟩], some [.int .i64, .int .i64, .bool, .int .u8]⟩),
  (8, ⟨4, 24, true, [.v (.int .i64 0), .v (.int .i64 0), .v (.bool false), .v (.int .u8 0)], .struct [⟨0, 1, false⟩, ⟨1, 1, false⟩, ⟨2, 1, false⟩, ⟨3, 1, false⟩], some [.int .i64, .int .i64, .bool, .int .u8]⟩),
  (9, ⟨1, 16, false, [.v (.str ⟨#[]⟩)], .str, none⟩),
  (10, ⟨1, 16, false, [.v (.str ⟨#[]⟩)], .str, none⟩),
  (11, ⟨1, 16, false, [.v (.str ⟨#[]⟩)], .str, none⟩),
  (12, ⟨1, 8, false, [.v (.int .u64 0)], .int .u64, none⟩),
  (15, ⟨1, 8, false, [.v .nilp], .other, none⟩),
  (16, ⟨1, 8, false, [.v .nilp], .other, none⟩),
  (17, ⟨1, 8, false, [.v .nilp], .other, none⟩),
  (18, ⟨1, 8, true, [.v .nilp], .struct [⟨0, 1, false⟩], none⟩),
  (19, ⟨1, 8, true, [.v .nilp], .struct [⟨0, 1, false⟩], none⟩),
  (21, ⟨1, 4, false, [.v (.int .i32 0)], .int .i32, none⟩),
  (22, ⟨1, 24, false, [.nils 5], .slice 5, none⟩),
  (24, ⟨1, 8, false, [.v .nilf], .other, none⟩),
  (25, ⟨1, 24, false, [.nils 2], .slice 2, none⟩),
  (26, ⟨6, 72, true, [.v (.int .i64 0), .v (.int .i64 0), .v (.int .i64 0), .v (.bool false), .nils 2, .v (.str ⟨#[]⟩)], .struct [⟨0, 1, false⟩, ⟨1, 1, false⟩, ⟨2, 1, false⟩, ⟨3, 1, false⟩, ⟨4, 1, false⟩, ⟨5, 1, false⟩], none⟩),
  (27, ⟨6, 72, true, [.v (.int .i64 0), .v (.int .i64 0), .v (.int .i64 0), .v (.bool false), .nils 2, .v (.str ⟨#[]⟩)], .struct [⟨0, 1, false⟩, ⟨1, 1, false⟩, ⟨2, 1, false⟩, ⟨3, 1, false⟩, ⟨4, 1, false⟩, ⟨5, 1, false⟩], none⟩),
  (28, ⟨1, 8, false, [.v .nilf], .other, none⟩),
  (29, ⟨1, 8, false, [.v .nilf], .other, none⟩),
  (30, ⟨1, 8, false, [.v .nilf], .other, none⟩),
  (31, ⟨1, 24, false, [.nils 34], .slice 34, none⟩),
  (32, ⟨1, 8, false, [.v (.int .u64 0)], .int .u64, none⟩),
  (33, ⟨4, 32, true, [.v (.int .i64 0), .v (.int .i64 0), .v (.int .i64 0), .v (.bool false)], .struct [⟨0, 1, false⟩, ⟨1, 1, false⟩, ⟨2, 1, false⟩, ⟨3, 1, false⟩], some [.int .i64, .int .i64, .int .i64, .bool]⟩),
  (34, ⟨4, 32, true, [.v (.int .i64 0), .v (.int .i64 0), .v (.int .i64 0), .v (.bool false)], .struct [⟨0, 1, false⟩, ⟨1, 1, false⟩, ⟨2, 1, false⟩, ⟨3, 1, false⟩], some [.int .i64, .int .i64, .int .i64, .bool]⟩),
  (35, ⟨4, 56, true, [.v (.int .i64 0), .v (.int .i64 0), .v (.str ⟨#[]⟩), .nils 2], .struct [⟨0, 1, false⟩, ⟨1, 1, false⟩, ⟨2, 1, false⟩, ⟨3, 1, false⟩], none⟩),
  (36, ⟨4, 56, true, [.v (.int .i64 0), .v (.int .i64 0), .v (.str ⟨#[]⟩), .nils 2], .struct [⟨0, 1, false⟩, ⟨1, 1, false⟩, ⟨2, 1, false⟩, ⟨3, 1, false⟩], none⟩),
  (37, ⟨1, 8, false, [.v .nilf], .other, none⟩),
  (38, ⟨5, 48, true, [.v (.int .i64 0), .v (.int .i64 0), .v (.int .i64 0), .v (.int .i64 0), .v (.str ⟨#[]⟩)], .struct [⟨0, 1, false⟩, ⟨1, 1, false⟩, ⟨2, 1, false⟩, ⟨3, 1, false⟩, ⟨4, 1, false⟩], some [.int .i64, .int .i64, .int .i64, .int .i64, .str]⟩),
  (39, ⟨5, 48, true, [.v (.int .i64 0), .v (.int .i64 0), .v (.int .i64 0), .v (.int .i64 0), .v (.str ⟨#[]⟩)], .struct [⟨0, 1, false⟩, ⟨1, 1, false⟩, ⟨2, 1, false⟩, ⟨3, 1, false⟩, ⟨4, 1, false⟩], some [.int .i64, .int .i64, .int .i64, .int .i64, .str]⟩),
  (40, ⟨1, 8, false, [.v .nilf], .other, none⟩),
  (42, ⟨1, 8, false, [.v .nilf], .other, none⟩),
  (43, ⟨1, 8, false, [.v .nilf], .other, none⟩),
  (44, ⟨1, 8, false, [.v .nilf], .other, none⟩),
  (46, ⟨1, 8, false, [.v .nilf], .other, none⟩),
  (47, ⟨4, 48, true, [.v (.int .i64 0), .v (.int .i64 0), .v (.str ⟨#[]⟩), .v (.str ⟨#[]⟩)], .struct [⟨0, 1, false⟩, ⟨1, 1, false⟩, ⟨2, 1, false⟩, ⟨3, 1, false⟩], some [.int .i64, .int .i64, .str, .str]⟩),
  (48, ⟨4, 48, true, [.v (.int .i64 0), .v (.int .i64 0), .v (.str ⟨#[]⟩), .v (.str ⟨#[]⟩)], .struct [⟨0, 1, false⟩, ⟨1, 1, false⟩, ⟨2, 1, false⟩, ⟨3, 1, false⟩], some [.int .i64, .int .i64, .str, .str]⟩),
  (49, ⟨1, 8, false, [.v .nilf], .other, none⟩),
  (50, ⟨1, 8, false, [.v .nilf], .other, none⟩),
  (51, ⟨1, 8, false, [.v .nilf], .other, none⟩),
  (52, ⟨1, 8, false, [.v .nilf], .other, none⟩),
  (53, ⟨1, 8, false, [.v .nilp], .other, none⟩),
  (54, ⟨1, 8, false, [.v .nilf], .other, none⟩),
  (55, ⟨1, 8, false, [.v .nilf], .other, none⟩),
  (56, ⟨1, 8, false, [.v .nilf], .other, none⟩),
  (57, ⟨1, 8, false, [.v .nilf], .other, none⟩),
  (58, ⟨1, 8, false, [.v .nilf], .other, none⟩),
  (59, ⟨1, 8, false, [.v .nilf], .other, none⟩),
  (60, ⟨1, 8, false, [.v .nilf], .other, none⟩),
  (61, ⟨2, 16, true, [.v (.int .i64 0), .v (.int .i64 0)], .array 2 2, none⟩),
  (62, ⟨9, 72, true, [.v (.int .i64 0), .v (.int .i64 0), .v (.int .i64 0), .v (.int .i64 0), .v (.int .i64 0), .v (.bool false), .v (.int .i64 0), .v (.int .i64 0), .v (.int .i64 0)], .struct [⟨0, 1, false⟩, ⟨1, 1, false⟩, ⟨2, 1, false⟩, ⟨3, 1, false⟩, ⟨4, 1, false⟩, ⟨5, 1, false⟩, ⟨6, 2, true⟩, ⟨8, 1, false⟩], none⟩),
  (63, ⟨9, 72, true, [.v (.int .i64 0), .v (.int .i64 0), .v (.int .i64 0), .v (.int .i64 0), .v (.int .i64 0), .v (.bool false), .v (.int .i64 0), .v (.int .i64 0), .v (.int .i64 0)], .struct [⟨0, 1, false⟩, ⟨1, 1, false⟩, ⟨2, 1, false⟩, ⟨3, 1, false⟩, ⟨4, 1, false⟩, ⟨5, 1, false⟩, ⟨6, 2, true⟩, ⟨8, 1, false⟩], none⟩),
  (64, ⟨1, 8, false, [.v .nilf], .other, none⟩),
  (65, ⟨1, 8, false, [.v .nilf], .other, none⟩),
  (66, ⟨1, 8, false, [.v .nilf], .other, none⟩),
  (68, ⟨1, 8, false, [.v .nilf], .other, none⟩),
  (69, ⟨1, 8, false, [.v .nilf], .other, none⟩),
  (70, ⟨1, 8, false, [.v .nilf], .other, none⟩),
  (71, ⟨1, 8, false, [.v .nilf], .other, none⟩),
  (72, ⟨1, 8, false, [.v .nilf], .other, none⟩),
  (74, ⟨1, 8, false, [.v .nilf], .other, none⟩),
  (75, ⟨1, 8, false, [.v .nilf], .other, none⟩),
  (76, ⟨1, 8, false, [.v .nilf], .other, none⟩),
  (77, ⟨1, 8, false, [.v .nilf], .other, none⟩),
  (78, ⟨1, 8, false, [.v .nilp], .other, none⟩),
  (79, ⟨4, 40, true, [.v (.str ⟨#[]⟩), .v (.int .i64 0), .v (.int .i64 0), .v (.int .i64 0)], .struct [⟨0, 1, false⟩, ⟨1, 1, false⟩, ⟨2, 1, false⟩, ⟨3, 1, false⟩], some [.str, .int .i64, .int .i64, .int .i64]⟩),
  (80, ⟨4, 40, true, [.v (.str ⟨#[]⟩), .v (.int .i64 0), .v (.int .i64 0), .v (.int .i64 0)], .struct [⟨0, 1, false⟩, ⟨1, 1, false⟩, ⟨2, 1, false⟩, ⟨3, 1, false⟩], some [.str, .int .i64, .int .i64, .int .i64]⟩),
  (81, ⟨1, 8, false, [.v .nilf], .other, none⟩),
  (82, ⟨1, 8, false, [.v .nilf], .other, none⟩),
  (83, ⟨1, 8, false, [.v .nilf], .other, none⟩),
  (84, ⟨1, 8, false, [.v .nilf], .other, none⟩),
  (85, ⟨1, 8, false, [.v .nilf], .other, none⟩),
  (86, ⟨1, 8, false, [.v .nilf], .other, none⟩),
  (87, ⟨1, 8, false, [.v .nilf], .other, none⟩),
  (89, ⟨1, 8, false, [.v .nilf], .other, none⟩),
  (90, ⟨2, 16, true, [.v (.bool false), .v (.int .i64 0)], .struct [⟨0, 1, false⟩, ⟨1, 1, false⟩], some [.bool, .int .i64]⟩),
  (91, ⟨2, 16, true, [.v (.bool false), .v (.int .i64 0)], .struct [⟨0, 1, false⟩, ⟨1, 1, false⟩], some [.bool, .int .i64]⟩),
  (92, ⟨1, 8, false, [.v .nilf], .other, none⟩),
  (93, ⟨1, 8, false, [.v .nilf], .other, none⟩),
  (95, ⟨1, 8, false, [.v .nilf], .other, none⟩),
  (97, ⟨1, 8, false, [.v .nilf], .other, none⟩),
  (98, ⟨1, 24, false, [.nils 61], .slice 61, none⟩),
  (100, ⟨1, 8, false, [.v .nilf], .other, none⟩),
  (101, ⟨1, 8, false, [.v (.int .u64 0)], .int .u64, none⟩),
  (102, ⟨4, 48, true, [.nils 5, .v (.int .i64 0), .v (.int .u64 0), .v (.int .i64 0)], .struct [⟨0, 1, false⟩, ⟨1, 1, false⟩, ⟨2, 1, false⟩, ⟨3, 1, false⟩], none⟩),
  (103, ⟨4, 48, true, [.nils 5, .v (.int .i64 0), .v (.int .u64 0), .v (.int .i64 0)], .struct [⟨0, 1, false⟩, ⟨1, 1, false⟩, ⟨2, 1, false⟩, ⟨3, 1, false⟩], none⟩),
  (104, ⟨1, 8, false, [.v .nilf], .other, none⟩),
  (105, ⟨1, 8, false, [.v .nilp], .other, none⟩),
  (106, ⟨1, 24, false, [.nils 9], .slice 9, none⟩),
  (107, ⟨1, 8, false, [.v .nilf], .other, none⟩),
  (108, ⟨4, 40, true, [.v .nilp, .v .nilp, .v .nilp, .v (.str ⟨#[]⟩)], .struct [⟨0, 1, false⟩, ⟨1, 1, false⟩, ⟨2, 1, false⟩, ⟨3, 1, false⟩], none⟩),
  (109, ⟨4, 40, true, [.v .nilp, .v .nilp, .v .nilp, .v (.str ⟨#[]⟩)], .struct [⟨0, 1, false⟩, ⟨1, 1, false⟩, ⟨2, 1, false⟩, ⟨3, 1, false⟩], none⟩),
  (110, ⟨0, 0, true, [], .array 0 16, none⟩),
  (111, ⟨0, 0, true, [], .struct [⟨0, 0, true⟩], none⟩),
  (112, ⟨0, 0, true, [], .struct [⟨0, 0, true⟩], none⟩),
  (113, ⟨1, 8, false, [.v .nilf], .other, none⟩),
  (114, ⟨1, 4, false, [.v (.int .u32 0)], .int .u32, none⟩),
  (115, ⟨1, 1, false, [.v (.int .u8 0)], .int .u8, none⟩),
  (116, ⟨1, 1, false, [.v (.int .u8 0)], .int .u8, none⟩),
  (117, ⟨1, 8, false, [.v .nilf], .other, none⟩),
  (118, ⟨1, 8, false, [.v .nilp], .other, none⟩),
  (119, ⟨1, 4, false, [.v (.int .i32 0)], .int .i32, none⟩),
  (120, ⟨1, 4, false, [.v (.int .i32 0)], .int .i32, none⟩),
  (121, ⟨11, 48, true, [.v (.int .u64 0), .v (.int .u64 0), .v (.int .u32 0), .v (.int .u8 0), .v (.int .u8 0), .v (.int .u8 0), .v (.int .u8 0), .v .nilf, .v .nilp, .v (.int .i32 0), .v (.int .i32 0)], .struct [⟨0, 1, false⟩, ⟨1, 1, false⟩, ⟨2, 1, false⟩, ⟨3, 1, false⟩, ⟨4, 1, false⟩, ⟨5, 1, false⟩, ⟨6, 1, false⟩, ⟨7, 1, false⟩, ⟨8, 1, false⟩, ⟨9, 1, false⟩, ⟨10, 1, false⟩], none⟩),
  (122, ⟨11, 48, true, [.v (.int .u64 0), .v (.int .u64 0), .v (.int .u32 0), .v (.int .u8 0), .v (.int .u8 0), .v (.int .u8 0), .v (.int .u8 0), .v .nilf, .v .nilp, .v (.int .i32 0), .v (.int .i32 0)], .struct [⟨0, 1, false⟩, ⟨1, 1, false⟩, ⟨2, 1, false⟩, ⟨3, 1, false⟩, ⟨4, 1, false⟩, ⟨5, 1, false⟩, ⟨6, 1, false⟩, ⟨7, 1, false⟩, ⟨8, 1, false⟩, ⟨9, 1, false⟩, ⟨10, 1, false⟩], none⟩)]
theorem tab_ok : tab.all (fun x => tyIs Try.prog x.1 x.2) = true := by kernel_rfl

structure PageMap where
  fVa : Int
  fFrame : Int
  fFlags : Int
  fLarge : Bool
deriving DecidableEq
def tiPageMap : RT PageMap where
  elt := 34
  sz := 4
  cells := fun x => [.int .i64 x.fVa, .int .i64 x.fFrame, .int .i64 x.fFlags, .bool x.fLarge]
  ofK := fun l K => match l with
    | [.int .i64 a0, .int .i64 a1, .int .i64 a2, .bool a3] => K ⟨a0, a1, a2, a3⟩
    | _ => none
theorem tiPageMap_ok (P : Program) (h : ∃ inf, P.info? 34 = some inf ∧ inf.size = 4) : RTOk P tiPageMap where
  len := fun _ => rfl
  plain := fun x s hs => by
    simp only [tiPageMap, List.mem_cons, List.not_mem_nil, or_false] at hs
    rcases hs with rfl | rfl | rfl | rfl <;> rfl
  of := fun l K r e => by
    simp only [tiPageMap] at e ⊢
    split at e
    · exact ⟨_, e, rfl⟩
    · cases e
  info := let ⟨inf, h1, h2⟩ := h; ⟨inf, h1, h2, by decide⟩
structure A2i64 where
  f0 : Int
  f1 : Int
deriving DecidableEq
def taA2i64 : RT A2i64 where
  elt := 61
  sz := 2
  cells := fun x => [.int .i64 x.f0, .int .i64 x.f1]
  ofK := fun l K => match l with
    | [.int .i64 a0, .int .i64 a1] => K ⟨a0, a1⟩
    | _ => none
theorem taA2i64_ok (P : Program) (h : ∃ inf, P.info? 61 = some inf ∧ inf.size = 2) : RTOk P taA2i64 where
  len := fun _ => rfl
  plain := fun x s hs => by
    simp only [taA2i64, List.mem_cons, List.not_mem_nil, or_false] at hs
    rcases hs with rfl | rfl <;> rfl
  of := fun l K r e => by
    simp only [taA2i64] at e ⊢
    split at e
    · exact ⟨_, e, rfl⟩
    · cases e
  info := let ⟨inf, h1, h2⟩ := h; ⟨inf, h1, h2, by decide⟩
inductive B where
  | i64 (l : List Int)
  | u8 (l : List Int)
  | str (l : List ByteArray)
  | iPageMap (l : List PageMap)
  | aA2i64 (l : List A2i64)

abbrev ri64 : RT Int := rtInt 2 .i64
abbrev ru8 : RT Int := rtInt 5 .u8
abbrev rstr : RT ByteArray := rtStr 9
abbrev riPageMap : RT PageMap := tiPageMap
abbrev raA2i64 : RT A2i64 := taA2i64
def B.elt : B → TypeId
  | .i64 _ => 2
  | .u8 _ => 5
  | .str _ => 9
  | .iPageMap _ => 34
  | .aA2i64 _ => 61
def B.sz : B → Nat
  | .i64 _ => 1
  | .u8 _ => 1
  | .str _ => 1
  | .iPageMap _ => 4
  | .aA2i64 _ => 2
def B.cells : B → List SV
  | .i64 l => rtCells ri64 l
  | .u8 l => rtCells ru8 l
  | .str l => rtCells rstr l
  | .iPageMap l => rtCells riPageMap l
  | .aA2i64 l => rtCells raA2i64 l
def B.len : B → Nat
  | .i64 l => l.length
  | .u8 l => l.length
  | .str l => l.length
  | .iPageMap l => l.length
  | .aA2i64 l => l.length
section
variable {α : Type}
def B.rowK : B → Nat → (List SV → Option α) → Option α
  | .i64 l, n, K => rtRow ri64 l n K
  | .u8 l, n, K => rtRow ru8 l n K
  | .str l, n, K => rtRow rstr l n K
  | .iPageMap l, n, K => rtRow riPageMap l n K
  | .aA2i64 l, n, K => rtRow raA2i64 l n K
def B.setK : B → Nat → List SV → (B → Option α) → Option α
  | .i64 l, n, v, K => rtSet ri64 l n v fun l => K (.i64 l)
  | .u8 l, n, v, K => rtSet ru8 l n v fun l => K (.u8 l)
  | .str l, n, v, K => rtSet rstr l n v fun l => K (.str l)
  | .iPageMap l, n, v, K => rtSet riPageMap l n v fun l => K (.iPageMap l)
  | .aA2i64 l, n, v, K => rtSet raA2i64 l n v fun l => K (.aA2i64 l)
def B.appK : B → B → (B → Option α) → Option α
  | .i64 a, .i64 b, K => K (.i64 (a ++ b))
  | .u8 a, .u8 b, K => K (.u8 (a ++ b))
  | .str a, .str b, K => K (.str (a ++ b))
  | .iPageMap a, .iPageMap b, K => K (.iPageMap (a ++ b))
  | .aA2i64 a, .aA2i64 b, K => K (.aA2i64 (a ++ b))
  | _, _, _ => none
def B.mkK (t : TypeId) (ls : List (List SV)) (K : B → Option α) : Option α := cond (Nat.beq t 2) (rtMk ri64 ls fun l => K (.i64 l)) (cond (Nat.beq t 5) (rtMk ru8 ls fun l => K (.u8 l)) (cond (Nat.beq t 9) (rtMk rstr ls fun l => K (.str l)) (cond (Nat.beq t 34) (rtMk riPageMap ls fun l => K (.iPageMap l)) (cond (Nat.beq t 61) (rtMk raA2i64 ls fun l => K (.aA2i64 l)) (none)))))
def B.zeroK (t : TypeId) (n : Nat) (K : B → Option α) : Option α := cond (Nat.beq t 2) (K (.i64 (List.replicate n 0))) (cond (Nat.beq t 5) (K (.u8 (List.replicate n 0))) (cond (Nat.beq t 9) (K (.str (List.replicate n ⟨#[]⟩))) (cond (Nat.beq t 34) (K (.iPageMap (List.replicate n ⟨0, 0, 0, false⟩))) (cond (Nat.beq t 61) (K (.aA2i64 (List.replicate n ⟨0, 0⟩))) (none)))))
def B.subK : B → Nat → Nat → (B → Option α) → Option α
  | .i64 l, i, n, K => rtSub l i n fun l => K (.i64 l)
  | .u8 l, i, n, K => rtSub l i n fun l => K (.u8 l)
  | .str l, i, n, K => rtSub l i n fun l => K (.str l)
  | .iPageMap l, i, n, K => rtSub l i n fun l => K (.iPageMap l)
  | .aA2i64 l, i, n, K => rtSub l i n fun l => K (.aA2i64 l)
def B.ovK : B → Nat → B → (B → Option α) → Option α
  | .i64 a, i, .i64 b, K => rtOv a i b fun l => K (.i64 l)
  | .u8 a, i, .u8 b, K => rtOv a i b fun l => K (.u8 l)
  | .str a, i, .str b, K => rtOv a i b fun l => K (.str l)
  | .iPageMap a, i, .iPageMap b, K => rtOv a i b fun l => K (.iPageMap l)
  | .aA2i64 a, i, .aA2i64 b, K => rtOv a i b fun l => K (.aA2i64 l)
  | _, _, _, _ => none
def B.strK : B → Nat → Nat → (ByteArray → Option α) → Option α
  | .u8 l, i, n, K => cond (Nat.ble (i + n) l.length) (K (toBytes (seg l i n))) none
  | _, _, _, _ => none
def B.bytesK (t : TypeId) (s : ByteArray) (K : B → Option α) : Option α := cond (Nat.beq t 5) (K (.u8 (ofBytes s))) (none)
end
noncomputable def E : Env where
  P := Try.prog
  B := B
  elt := B.elt
  sz := B.sz
  cells := B.cells
  len := B.len
  rowK := B.rowK
  setK := B.setK
  appK := B.appK
  mkK := B.mkK
  zeroK := B.zeroK
  subK := B.subK
  strK := B.strK
  bytesK := B.bytesK
  ovK := B.ovK
  ty := fun t => tabLook t tab
  named := fun t => false
  wide := fun f => [3, 4, 5, 6, 7, 14, 15, 18, 26, 27, 28, 29, 34, 40, 41, 43, 44, 45, 49, 53, 57, 58, 61, 62, 65].any (Nat.beq f)

theorem ri64_ok : RTOk Try.prog ri64 := rtInt_ok ⟨Try.t2, by kernel_rfl, by kernel_rfl⟩
theorem ru8_ok : RTOk Try.prog ru8 := rtInt_ok ⟨Try.t5, by kernel_rfl, by kernel_rfl⟩
theorem rstr_ok : RTOk Try.prog rstr := rtStr_ok ⟨Try.t9, by kernel_rfl, by kernel_rfl⟩
theorem riPageMap_ok : RTOk Try.prog riPageMap := tiPageMap_ok _ ⟨Try.t34, by kernel_rfl, by kernel_rfl⟩
theorem raA2i64_ok : RTOk Try.prog raA2i64 := taA2i64_ok _ ⟨Try.t61, by kernel_rfl, by kernel_rfl⟩
section
variable {α : Type}
theorem B.rowK_ok {b : B} {n : Nat} {K : List SV → Option α} {r : α} (h : b.rowK n K = some r) : ∃ l, K l = some r ∧ l.length = b.sz ∧ n < b.len ∧ l = seg b.cells (n * b.sz) b.sz := by
  cases b
  · exact rtRow_ok ri64_ok h
  · exact rtRow_ok ru8_ok h
  · exact rtRow_ok rstr_ok h
  · exact rtRow_ok riPageMap_ok h
  · exact rtRow_ok raA2i64_ok h
theorem B.setK_ok {b : B} {n : Nat} {l : List SV} {K : B → Option α} {r : α} (h : b.setK n l K = some r) : ∃ b', K b' = some r ∧ b'.elt = b.elt ∧ b'.sz = b.sz ∧ b'.len = b.len ∧ l.length = b.sz ∧ n < b.len ∧ b'.cells = splice b.cells (n * b.sz) l := by
  cases b
  · unfold B.setK at h
    obtain ⟨ys, hK, h1, h2, h3, h4⟩ := rtSet_ok ri64_ok h
    exact ⟨.i64 ys, hK, rfl, rfl, h1, h2, h3, h4⟩
  · unfold B.setK at h
    obtain ⟨ys, hK, h1, h2, h3, h4⟩ := rtSet_ok ru8_ok h
    exact ⟨.u8 ys, hK, rfl, rfl, h1, h2, h3, h4⟩
  · unfold B.setK at h
    obtain ⟨ys, hK, h1, h2, h3, h4⟩ := rtSet_ok rstr_ok h
    exact ⟨.str ys, hK, rfl, rfl, h1, h2, h3, h4⟩
  · unfold B.setK at h
    obtain ⟨ys, hK, h1, h2, h3, h4⟩ := rtSet_ok riPageMap_ok h
    exact ⟨.iPageMap ys, hK, rfl, rfl, h1, h2, h3, h4⟩
  · unfold B.setK at h
    obtain ⟨ys, hK, h1, h2, h3, h4⟩ := rtSet_ok raA2i64_ok h
    exact ⟨.aA2i64 ys, hK, rfl, rfl, h1, h2, h3, h4⟩
theorem B.appK_ok {a b : B} {K : B → Option α} {r : α} (h : a.appK b K = some r) : ∃ c, K c = some r ∧ c.elt = a.elt ∧ c.sz = a.sz ∧ b.sz = a.sz ∧ c.len = a.len + b.len ∧ c.cells = a.cells ++ b.cells := by
  cases a <;> cases b <;> first | (unfold B.appK at h; cases h; done) | exact ⟨_, h, rfl, rfl, rfl, List.length_append, rtCells_append _ _ _⟩
theorem B.mkK_ok {t : TypeId} {ls : List (List SV)} {K : B → Option α} {r : α} (h : B.mkK t ls K = some r) : ∃ b, K b = some r ∧ b.elt = t ∧ b.len = ls.length ∧ b.cells = ls.flatten ∧ ∀ l ∈ ls, l.length = b.sz := by
  unfold B.mkK at h
  rcases cond_some h with ⟨e0, h0⟩ | ⟨_, h0⟩
  · obtain ⟨xs, hK, h1, h2, h3⟩ := rtMk_ok ri64_ok h0
    exact ⟨_, hK, (Nat.eq_of_beq_eq_true e0).symm, h1, h2, h3⟩
  rcases cond_some h0 with ⟨e1, h1⟩ | ⟨_, h1⟩
  · obtain ⟨xs, hK, h1, h2, h3⟩ := rtMk_ok ru8_ok h1
    exact ⟨_, hK, (Nat.eq_of_beq_eq_true e1).symm, h1, h2, h3⟩
  rcases cond_some h1 with ⟨e2, h2⟩ | ⟨_, h2⟩
  · obtain ⟨xs, hK, h1, h2, h3⟩ := rtMk_ok rstr_ok h2
    exact ⟨_, hK, (Nat.eq_of_beq_eq_true e2).symm, h1, h2, h3⟩
  rcases cond_some h2 with ⟨e3, h3⟩ | ⟨_, h3⟩
  · obtain ⟨xs, hK, h1, h2, h3⟩ := rtMk_ok riPageMap_ok h3
    exact ⟨_, hK, (Nat.eq_of_beq_eq_true e3).symm, h1, h2, h3⟩
  rcases cond_some h3 with ⟨e4, h4⟩ | ⟨_, h4⟩
  · obtain ⟨xs, hK, h1, h2, h3⟩ := rtMk_ok raA2i64_ok h4
    exact ⟨_, hK, (Nat.eq_of_beq_eq_true e4).symm, h1, h2, h3⟩
  cases h4
theorem B.zeroK_ok {t : TypeId} {n : Nat} {K : B → Option α} {r : α} (h : B.zeroK t n K = some r) : ∃ b, K b = some r ∧ b.elt = t ∧ b.len = n ∧ ∃ ti z, tabLook t tab = some ti ∧ ti.zero = z.map .v ∧ z.length = b.sz ∧ b.cells = (List.replicate n z).flatten := by
  unfold B.zeroK at h
  rcases cond_some h with ⟨e0, h0⟩ | ⟨_, h0⟩
  · have e := Nat.eq_of_beq_eq_true e0
    subst e
    exact ⟨_, h0, rfl, List.length_replicate, _, [.int .i64 0], rfl, rfl, rfl, rtCells_replicate _ _ _⟩
  rcases cond_some h0 with ⟨e1, h1⟩ | ⟨_, h1⟩
  · have e := Nat.eq_of_beq_eq_true e1
    subst e
    exact ⟨_, h1, rfl, List.length_replicate, _, [.int .u8 0], rfl, rfl, rfl, rtCells_replicate _ _ _⟩
  rcases cond_some h1 with ⟨e2, h2⟩ | ⟨_, h2⟩
  · have e := Nat.eq_of_beq_eq_true e2
    subst e
    exact ⟨_, h2, rfl, List.length_replicate, _, [.str ⟨#[]⟩], rfl, rfl, rfl, rtCells_replicate _ _ _⟩
  rcases cond_some h2 with ⟨e3, h3⟩ | ⟨_, h3⟩
  · have e := Nat.eq_of_beq_eq_true e3
    subst e
    exact ⟨_, h3, rfl, List.length_replicate, _, [.int .i64 0, .int .i64 0, .int .i64 0, .bool false], rfl, rfl, rfl, rtCells_replicate _ _ _⟩
  rcases cond_some h3 with ⟨e4, h4⟩ | ⟨_, h4⟩
  · have e := Nat.eq_of_beq_eq_true e4
    subst e
    exact ⟨_, h4, rfl, List.length_replicate, _, [.int .i64 0, .int .i64 0], rfl, rfl, rfl, rtCells_replicate _ _ _⟩
  cases h4
theorem B.subK_ok {b : B} {i n : Nat} {K : B → Option α} {r : α} (h : b.subK i n K = some r) : ∃ b', K b' = some r ∧ b'.elt = b.elt ∧ b'.sz = b.sz ∧ b'.len = n ∧ i + n ≤ b.len ∧ b'.cells = seg b.cells (i * b.sz) (n * b.sz) := by
  cases b
  · unfold B.subK at h
    obtain ⟨ys, hK, h1, h2, h3⟩ := rtSub_ok ri64_ok h
    exact ⟨.i64 ys, hK, rfl, rfl, h1, h2, h3⟩
  · unfold B.subK at h
    obtain ⟨ys, hK, h1, h2, h3⟩ := rtSub_ok ru8_ok h
    exact ⟨.u8 ys, hK, rfl, rfl, h1, h2, h3⟩
  · unfold B.subK at h
    obtain ⟨ys, hK, h1, h2, h3⟩ := rtSub_ok rstr_ok h
    exact ⟨.str ys, hK, rfl, rfl, h1, h2, h3⟩
  · unfold B.subK at h
    obtain ⟨ys, hK, h1, h2, h3⟩ := rtSub_ok riPageMap_ok h
    exact ⟨.iPageMap ys, hK, rfl, rfl, h1, h2, h3⟩
  · unfold B.subK at h
    obtain ⟨ys, hK, h1, h2, h3⟩ := rtSub_ok raA2i64_ok h
    exact ⟨.aA2i64 ys, hK, rfl, rfl, h1, h2, h3⟩
theorem B.ovK_ok {a b : B} {i : Nat} {K : B → Option α} {r : α} (h : a.ovK i b K = some r) : ∃ a', K a' = some r ∧ a'.elt = a.elt ∧ a'.sz = a.sz ∧ a'.len = a.len ∧ b.sz = a.sz ∧ i + b.len ≤ a.len ∧ a'.cells = splice a.cells (i * a.sz) b.cells := by
  cases a <;> cases b <;> first | (unfold B.ovK at h; cases h; done) | skip
  · unfold B.ovK at h
    obtain ⟨ys, hK, h1, h2, h3⟩ := rtOv_ok ri64_ok h
    exact ⟨.i64 ys, hK, rfl, rfl, h1, rfl, h2, h3⟩
  · unfold B.ovK at h
    obtain ⟨ys, hK, h1, h2, h3⟩ := rtOv_ok ru8_ok h
    exact ⟨.u8 ys, hK, rfl, rfl, h1, rfl, h2, h3⟩
  · unfold B.ovK at h
    obtain ⟨ys, hK, h1, h2, h3⟩ := rtOv_ok rstr_ok h
    exact ⟨.str ys, hK, rfl, rfl, h1, rfl, h2, h3⟩
  · unfold B.ovK at h
    obtain ⟨ys, hK, h1, h2, h3⟩ := rtOv_ok riPageMap_ok h
    exact ⟨.iPageMap ys, hK, rfl, rfl, h1, rfl, h2, h3⟩
  · unfold B.ovK at h
    obtain ⟨ys, hK, h1, h2, h3⟩ := rtOv_ok raA2i64_ok h
    exact ⟨.aA2i64 ys, hK, rfl, rfl, h1, rfl, h2, h3⟩
theorem B.strK_ok {b : B} {i n : Nat} {K : ByteArray → Option α} {r : α} (h : b.strK i n K = some r) : ∃ ns : List Int, K ⟨(ns.map fun x => UInt8.ofNat x.toNat).toArray⟩ = some r ∧ b.sz = 1 ∧ i + n ≤ b.len ∧ ns.length = n ∧ seg b.cells i n = ns.map (.int .u8 ·) := by
  cases b
  · cases h
  · unfold B.strK at h
    obtain ⟨hn, hK⟩ := cond_none_right h
    have hn := Nat.le_of_ble_eq_true hn
    refine ⟨seg _ i n, hK, rfl, hn, seg_length _ _ _ hn, ?_⟩
    have h1 := rtCells_seg ru8_ok ‹_› i n
    simp only [rtInt, Nat.mul_one] at h1
    exact h1.symm.trans (rtInt_map _ _ _)
  · cases h
  · cases h
  · cases h
theorem B.bytesK_ok {t : TypeId} {s : ByteArray} {K : B → Option α} {r : α} (h : B.bytesK t s K = some r) : ∃ b, K b = some r ∧ b.elt = t ∧ b.sz = 1 ∧ b.len = s.size ∧ b.cells = s.data.toList.map fun c => .int .u8 (c.toNat : Int) := by
  unfold B.bytesK at h
  rcases cond_some h with ⟨e0, h0⟩ | ⟨_, h0⟩
  · refine ⟨_, h0, (Nat.eq_of_beq_eq_true e0).symm, rfl, (List.length_map _).trans Array.length_toList, (rtInt_map _ _ _).trans ?_⟩
    unfold ofBytes
    rw [List.map_map]
    rfl
  cases h0
end
theorem B.cells_len (b : B) : b.cells.length = b.len * b.sz := by
  cases b
  · exact rtCells_length ri64_ok _
  · exact rtCells_length ru8_ok _
  · exact rtCells_length rstr_ok _
  · exact rtCells_length riPageMap_ok _
  · exact rtCells_length raA2i64_ok _
theorem B.plain (b : B) : ∀ s ∈ b.cells, s.plain = true := by
  cases b
  · exact rtCells_plain ri64_ok _
  · exact rtCells_plain ru8_ok _
  · exact rtCells_plain rstr_ok _
  · exact rtCells_plain riPageMap_ok _
  · exact rtCells_plain raA2i64_ok _
theorem B.info (b : B) : ∃ inf, E.P.info? b.elt = some inf ∧ inf.size = b.sz ∧ 0 < b.sz := by
  cases b
  · exact ri64_ok.info
  · exact ru8_ok.info
  · exact rstr_ok.info
  · exact riPageMap_ok.info
  · exact raA2i64_ok.info
theorem wi64 : RowOf ri64 [.int .i64] := fun row h => by
  obtain ⟨a0, _, rfl, w0, h0⟩ := ck_int h
  obtain rfl := ck_nil h0
  refine ⟨a0, ⟨rfl, trivial⟩, fun s hs => ?_⟩
  have hs : s ∈ [SV.int .i64 a0] := hs
  simp only [List.mem_cons, List.not_mem_nil, or_false] at hs
  subst hs
  · exact w0
theorem wu8 : RowOf ru8 [.int .u8] := fun row h => by
  obtain ⟨a0, _, rfl, w0, h0⟩ := ck_int h
  obtain rfl := ck_nil h0
  refine ⟨a0, ⟨rfl, trivial⟩, fun s hs => ?_⟩
  have hs : s ∈ [SV.int .u8 a0] := hs
  simp only [List.mem_cons, List.not_mem_nil, or_false] at hs
  subst hs
  · exact w0
theorem wstr : RowOf rstr [.str] := fun row h => by
  obtain ⟨a0, _, rfl, w0, h0⟩ := ck_str h
  obtain rfl := ck_nil h0
  refine ⟨a0, ⟨rfl, trivial⟩, fun s hs => ?_⟩
  have hs : s ∈ [SV.str a0] := hs
  simp only [List.mem_cons, List.not_mem_nil, or_false] at hs
  subst hs
  · exact w0
theorem wiPageMap : RowOf riPageMap [.int .i64, .int .i64, .int .i64, .bool] := fun row h => by
  obtain ⟨a0, _, rfl, w0, h0⟩ := ck_int h
  obtain ⟨a1, _, rfl, w1, h1⟩ := ck_int h0
  obtain ⟨a2, _, rfl, w2, h2⟩ := ck_int h1
  obtain ⟨a3, _, rfl, h3⟩ := ck_bool h2
  obtain rfl := ck_nil h3
  refine ⟨⟨a0, a1, a2, a3⟩, ⟨rfl, rfl, rfl, rfl, trivial⟩, fun s hs => ?_⟩
  have hs : s ∈ [SV.int .i64 a0, SV.int .i64 a1, SV.int .i64 a2, SV.bool a3] := hs
  simp only [List.mem_cons, List.not_mem_nil, or_false] at hs
  rcases hs with rfl | rfl | rfl | rfl
  · exact w0
  · exact w1
  · exact w2
  · exact trivial
theorem waA2i64 : RowOf raA2i64 [.int .i64, .int .i64] := fun row h => by
  obtain ⟨a0, _, rfl, w0, h0⟩ := ck_int h
  obtain ⟨a1, _, rfl, w1, h1⟩ := ck_int h0
  obtain rfl := ck_nil h1
  refine ⟨⟨a0, a1⟩, ⟨rfl, rfl, trivial⟩, fun s hs => ?_⟩
  have hs : s ∈ [SV.int .i64 a0, SV.int .i64 a1] := hs
  simp only [List.mem_cons, List.not_mem_nil, or_false] at hs
  rcases hs with rfl | rfl
  · exact w0
  · exact w1
theorem ok : EnvOk E where
  mixed := by kernel_rfl
  cells_len := B.cells_len
  plain := B.plain
  info := B.info
  rowK := fun _ _ _ _ h => B.rowK_ok h
  setK := fun _ _ _ _ _ h => B.setK_ok h
  appK := fun _ _ _ _ h => B.appK_ok h
  mkK := fun _ _ _ _ h => B.mkK_ok h
  zeroK := fun _ _ _ _ h => B.zeroK_ok h
  subK := fun _ _ _ _ _ h => B.subK_ok h
  strK := fun _ _ _ _ _ h => B.strK_ok h
  bytesK := fun _ _ _ _ h => B.bytesK_ok h
  ovK := fun _ _ _ _ _ h => B.ovK_ok h
  ty := fun _ _ h => tabLook_ok tab_ok h
end Go.Sa
