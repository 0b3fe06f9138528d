import Derived.Test.YtaffhdhamfilpaaOpn
import Derived.Test.YtaffhdhamfilpaaProg
set_option linter.all false
namespace Go.Sa
open Go Go.Eng Go.Proofs
set_option maxRecDepth 100000

def tab : Tab := [
  (1, ⟨1, 8, false, [.v .nilf], .other, none⟩),
  (2, ⟨1, 8, false, [.v (.int .i64 0)], .int .i64, none⟩),
  (3, ⟨1, 8, false, [.v (.int .i64 0)], .int .i64, none⟩),
  (4, ⟨1, 1, false, [.v (.bool false)], .bool, none⟩),
  (5, ⟨1, 1, false, [.v (.int .u8 0)], .int .u8, none⟩),
  (6, ⟨1, 1, false, [.v (.int .u8 0)], .int .u8, none⟩),
  (7, ⟨4, 24, true, [.v (.int .i64 0), .v (.int .i64 0), .v (.bool false), .v (.int .u8 0)], .struct [⟨0, 1, false⟩, ⟨1, 1, false⟩, ⟨2, 1, false⟩, ⟨3, 1, false⟩], some [.int .i64, .int .i64, .bool, .int .u8]⟩),
  (8, ⟨4, 24, true, [.v (.int .i64 0), .v (.int .i64 0), .v (.bool false), .v (.int .u8 0)], .struct [⟨0, 1, false⟩, ⟨1, 1, false⟩, ⟨2, 1, false⟩, ⟨3, 1, false⟩], some [.int .i64, .int .i64, .bool, .int .u8]⟩),
  (9, ⟨1, 16, false, [.v (.str ⟨#[]⟩)], .str, none⟩),
  (10, ⟨1, 16, false, [.v (.str ⟨#[]⟩)], .str, none⟩),
  (11, ⟨1, 16, false, [.v (.str ⟨#[]⟩)], .str, none⟩),
  (12, ⟨1, 8, false, [.v (.int .u64 0)], .int .u64, none⟩),
  (15, ⟨1, 8, false, [.v .nilp], .other, none⟩),
  (16, ⟨1, 8, false, [.v .nilp], .other, none⟩),
  (17, ⟨1, 8, false, [.v .nilp], .other, none⟩),
  (18, ⟨1, 8, true, [.v .nilp], .struct [⟨0, 1, false⟩], none⟩),
  (19, ⟨1, 8, true, [.v .nilp], .struct [⟨0, 1, false⟩], none⟩),
  (21, ⟨1, 4, false, [.v (.int .i32 0)], .int .i32, none⟩),
  (22, ⟨1, 24, false, [.nils 2], .slice 2, none⟩),
  (23, ⟨1, 24, false, [.nils 107], .slice 107, none⟩),
  (24, ⟨12, 184, true, [.v (.int .i64 0), .nils 2, .v (.int .i64 0), .nils 2, .nils 2, .v (.str ⟨#[]⟩), .v (.int .i64 0), .v (.int .i64 0), .v (.int .i64 0), .nils 107, .nils 107, .v (.int .i64 0)], .struct [⟨0, 1, false⟩, ⟨1, 1, false⟩, ⟨2, 1, false⟩, ⟨3, 1, false⟩, ⟨4, 1, false⟩, ⟨5, 1, false⟩, ⟨6, 1, false⟩, ⟨7, 1, false⟩, ⟨8, 1, false⟩, ⟨9, 1, false⟩, ⟨10, 1, false⟩, ⟨11, 1, false⟩], none⟩),
  (25, ⟨12, 184, true, [.v (.int .i64 0), .nils 2, .v (.int .i64 0), .nils 2, .nils 2, .v (.str ⟨#[]⟩), .v (.int .i64 0), .v (.int .i64 0), .v (.int .i64 0), .nils 107, .nils 107, .v (.int .i64 0)], .struct [⟨0, 1, false⟩, ⟨1, 1, false⟩, ⟨2, 1, false⟩, ⟨3, 1, false⟩, ⟨4, 1, false⟩, ⟨5, 1, false⟩, ⟨6, 1, false⟩, ⟨7, 1, false⟩, ⟨8, 1, false⟩, ⟨9, 1, false⟩, ⟨10, 1, false⟩, ⟨11, 1, false⟩], none⟩),
  (26, ⟨1, 8, false, [.v .nilf], .other, none⟩),
  (27, ⟨1, 8, false, [.v .nilf], .other, none⟩),
  (28, ⟨1, 24, false, [.nils 77], .slice 77, none⟩),
  (29, ⟨12, 184, true, [.v (.int .i64 0), .nils 2, .v (.int .i64 0), .nils 2, .nils 2, .v (.str ⟨#[]⟩), .v (.int .i64 0), .v (.int .i64 0), .v (.int .i64 0), .nils 77, .nils 77, .v (.int .i64 0)], .struct [⟨0, 1, false⟩, ⟨1, 1, false⟩, ⟨2, 1, false⟩, ⟨3, 1, false⟩, ⟨4, 1, false⟩, ⟨5, 1, false⟩, ⟨6, 1, false⟩, ⟨7, 1, false⟩, ⟨8, 1, false⟩, ⟨9, 1, false⟩, ⟨10, 1, false⟩, ⟨11, 1, false⟩], none⟩),
  (30, ⟨12, 184, true, [.v (.int .i64 0), .nils 2, .v (.int .i64 0), .nils 2, .nils 2, .v (.str ⟨#[]⟩), .v (.int .i64 0), .v (.int .i64 0), .v (.int .i64 0), .nils 77, .nils 77, .v (.int .i64 0)], .struct [⟨0, 1, false⟩, ⟨1, 1, false⟩, ⟨2, 1, false⟩, ⟨3, 1, false⟩, ⟨4, 1, false⟩, ⟨5, 1, false⟩, ⟨6, 1, false⟩, ⟨7, 1, false⟩, ⟨8, 1, false⟩, ⟨9, 1, false⟩, ⟨10, 1, false⟩, ⟨11, 1, false⟩], none⟩),
  (31, ⟨1, 8, false, [.v .nilf], .other, none⟩),
  (32, ⟨1, 8, false, [.v .nilf], .other, none⟩),
  (33, ⟨1, 8, false, [.v .nilf], .other, none⟩),
  (34, ⟨1, 8, false, [.v .nilf], .other, none⟩),
  (35, ⟨1, 8, false, [.v .nilf], .other, none⟩),
  (36, ⟨1, 24, false, [.nils 122], .slice 122, none⟩),
  (37, ⟨3, 40, true, [.v (.int .i64 0), .v (.int .i64 0), .nils 122], .struct [⟨0, 1, false⟩, ⟨1, 1, false⟩, ⟨2, 1, false⟩], none⟩),
  (38, ⟨3, 40, true, [.v (.int .i64 0), .v (.int .i64 0), .nils 122], .struct [⟨0, 1, false⟩, ⟨1, 1, false⟩, ⟨2, 1, false⟩], none⟩),
  (39, ⟨1, 8, false, [.v .nilf], .other, none⟩),
  (40, ⟨14, 216, true, [.v (.int .i64 0), .v (.int .i64 0), .nils 2, .v (.int .i64 0), .nils 2, .nils 2, .v (.str ⟨#[]⟩), .v (.int .i64 0), .v (.int .i64 0), .v (.int .i64 0), .nils 77, .nils 77, .v (.int .i64 0), .nils 2], .struct [⟨0, 1, false⟩, ⟨1, 12, true⟩, ⟨13, 1, false⟩], none⟩),
  (41, ⟨14, 216, true, [.v (.int .i64 0), .v (.int .i64 0), .nils 2, .v (.int .i64 0), .nils 2, .nils 2, .v (.str ⟨#[]⟩), .v (.int .i64 0), .v (.int .i64 0), .v (.int .i64 0), .nils 77, .nils 77, .v (.int .i64 0), .nils 2], .struct [⟨0, 1, false⟩, ⟨1, 12, true⟩, ⟨13, 1, false⟩], none⟩),
  (42, ⟨1, 8, false, [.v .nilf], .other, none⟩),
  (43, ⟨1, 24, false, [.nils 116], .slice 116, none⟩),
  (44, ⟨3, 40, true, [.v (.int .i64 0), .v (.int .i64 0), .nils 116], .struct [⟨0, 1, false⟩, ⟨1, 1, false⟩, ⟨2, 1, false⟩], none⟩),
  (45, ⟨3, 40, true, [.v (.int .i64 0), .v (.int .i64 0), .nils 116], .struct [⟨0, 1, false⟩, ⟨1, 1, false⟩, ⟨2, 1, false⟩], none⟩),
  (46, ⟨1, 8, false, [.v .nilf], .other, none⟩),
  (47, ⟨1, 8, false, [.v .nilf], .other, none⟩),
  (48, ⟨1, 8, false, [.v .nilf], .other, none⟩),
  (49, ⟨1, 8, false, [.v .nilf], .other, none⟩),
  (50, ⟨1, 8, false, [.v .nilf], .other, none⟩),
  (51, ⟨1, 8, false, [.v .nilf], .other, none⟩),
  (52, ⟨1, 8, false, [.v .nilf], .other, none⟩),
  (53, ⟨1, 8, false, [.v .nilf], .other, none⟩),
  (54, ⟨1, 8, false, [.v .nilf], .other, none⟩),
  (55, ⟨1, 8, false, [.v .nilf], .other, none⟩),
  (56, ⟨1, 8, false, [.v .nilf], .other, none⟩),
  (57, ⟨1, 8, false, [.v (.int .u64 0)], .int .u64, none⟩),
  (58, ⟨1, 8, false, [.v .nilf], .other, none⟩),
  (59, ⟨1, 8, false, [.v .nilf], .other, none⟩),
  (60, ⟨1, 24, false, [.nils 5], .slice 5, none⟩),
  (61, ⟨1, 8, false, [.v .nilf], .other, none⟩),
  (62, ⟨1, 8, false, [.v .nilf], .other, none⟩),
  (63, ⟨1, 8, false, [.v .nilf], .other, none⟩),
  (64, ⟨1, 8, false, [.v .nilf], .other, none⟩),
  (65, ⟨1, 8, false, [.v .nilf], .other, none⟩),
  (66, ⟨1, 8, false, [.v .nilf], .other, none⟩),
  (67, ⟨1, 8, false, [.v .nilp], .other, none⟩),
  (68, ⟨2, 32, true, [.v .nilp, .nils 5], .struct [⟨0, 1, false⟩, ⟨1, 1, false⟩], none⟩),
  (69, ⟨2, 32, true, [.v .nilp, .nils 5], .struct [⟨0, 1, false⟩, ⟨1, 1, false⟩], none⟩),
  (73, ⟨1, 8, false, [.v .nilf], .other, none⟩),
  (74, ⟨1, 8, false, [.v .nilf], .other, none⟩),
  (75, ⟨1, 24, false, [.nils 28], .slice 28, none⟩),
  (76, ⟨2, 16, true, [.v (.int .i64 0), .v (.int .i64 0)], .struct [⟨0, 1, false⟩, ⟨1, 1, false⟩], some [.int .i64, .int .i64]⟩),
  (77, ⟨2, 16, true, [.v (.int .i64 0), .v (.int .i64 0)], .struct [⟨0, 1, false⟩, ⟨1, 1, false⟩], some [.int .i64, .int .i64]⟩),
  (78, ⟨1, 8, false, [.v .nilf], .other, none⟩),
  (79, ⟨1, 8, false, [.v .nilf], .other, none⟩),
  (80, ⟨1, 8, false, [.v .nilf], .other, none⟩),
  (81, ⟨1, 8, false, [.v .nilf], .other, none⟩),
  (82, ⟨1, 8, false, [.v .nilf], .other, none⟩),
  (83, ⟨1, 8, false, [.v .nilf], .other, none⟩),
  (84, ⟨1, 8, false, [.v .nilf], .other, none⟩),
  (85, ⟨1, 8, false, [.v .nilf], .other, none⟩),
  (86, ⟨1, 8, false, [.v .nilf], .other, none⟩),
  (87, ⟨1, 8, false, [.v .nilf], .other, none⟩),
  (88, ⟨1, 8, false, [.v .nilf], .other, none⟩),
  (89, ⟨1, 24, false, [.nils 119], .slice 119, none⟩),
  (90, ⟨1, 8, false, [.v .nilf], .other, none⟩),
  (91, ⟨1, 8, false, [.v .nilf], .other, none⟩),
  (92, ⟨1, 8, false, [.v .nilf], .other, none⟩),
  (93, ⟨2, 24, true, [.v (.int .i64 0), .v (.str ⟨#[]⟩)], .struct [⟨0, 1, false⟩, ⟨1, 1, false⟩], some [.int .i64, .str]⟩),
  (94, ⟨2, 24, true, [.v (.int .i64 0), .v (.str ⟨#[]⟩)], .struct [⟨0, 1, false⟩, ⟨1, 1, false⟩], some [.int .i64, .str]⟩),
  (95, ⟨1, 24, false, [.nils 94], .slice 94, none⟩),
  (96, ⟨1, 8, false, [.v .nilf], .other, none⟩),
  (97, ⟨1, 8, false, [.v .nilf], .other, none⟩),
  (98, ⟨1, 8, false, [.v .nilf], .other, none⟩),
  (99, ⟨1, 8, false, [.v .nilf], .other, none⟩),
  (100, ⟨1, 8, false, [.v .nilf], .other, none⟩),
  (101, ⟨1, 8, false, [.v .nilf], .other, none⟩),
  (102, ⟨1, 8, false, [.v .nilf], .other, none⟩),
  (103, ⟨1, 8, false, [.v .nilf], .other, none⟩),
  (104, ⟨1, 8, false, [.v .nilf], .other, none⟩),
  (105, ⟨1, 8, false, [.v .nilf], .other, none⟩),
  (106, ⟨1, 8, false, [.v .nilf], .other, none⟩),
  (107, ⟨2, 16, true, [.v (.int .i64 0), .v (.int .i64 0)], .struct [⟨0, 1, false⟩, ⟨1, 1, false⟩], some [.int .i64, .int .i64]⟩),
  (108, ⟨1, 8, false, [.v .nilf], .other, none⟩),
  (109, ⟨1, 8, false, [.v .nilf], .other, none⟩),
  (110, ⟨1, 4, false, [.v (.int .u32 0)], .int .u32, none⟩),
  (111, ⟨1, 8, false, [.v .nilp], .other, none⟩),
  (112, ⟨1, 8, false, [.v .nilf], .other, none⟩),
  (113, ⟨1, 24, false, [.nils 9], .slice 9, none⟩),
  (114, ⟨1, 8, false, [.v .nilf], .other, none⟩),
  (115, ⟨3, 24, true, [.v (.int .i64 0), .v (.int .i64 0), .v (.int .i64 0)], .struct [⟨0, 1, false⟩, ⟨1, 1, false⟩, ⟨2, 1, false⟩], some [.int .i64, .int .i64, .int .i64]⟩),
  (116, ⟨3, 24, true, [.v (.int .i64 0), .v (.int .i64 0), .v (.int .i64 0)], .struct [⟨0, 1, false⟩, ⟨1, 1, false⟩, ⟨2, 1, false⟩], some [.int .i64, .int .i64, .int .i64]⟩),
  (117, ⟨1, 8, false, [.v .nilf], .other, none⟩),
  (118, ⟨3, 40, true, [.v (.str ⟨#[]⟩), .v (.int .i64 0), .v (.str ⟨#[]⟩)], .struct [⟨0, 1, false⟩, ⟨1, 1, false⟩, ⟨2, 1, false⟩], some [.str, .int .i64, .str]⟩),
  (119, ⟨3, 40, true, [.v (.str ⟨#[]⟩), .v (.int .i64 0), .v (.str ⟨#[]⟩)], .struct [⟨0, 1, false⟩, ⟨1, 1, false⟩, ⟨2, 1, false⟩], some [.str, .int .i64, .str]⟩),
  (120, ⟨1, 8, false, [.v .nilf], .other, none⟩),
  (121, ⟨1, 8, false, [.v .nilf], .other, none⟩),
  (122, ⟨3, 24, true, [.v (.int .i64 0), .v (.int .i64 0), .v (.int .i64 0)], .struct [⟨0, 1, false⟩, ⟨1, 1, false⟩, ⟨2, 1, false⟩], some [.int .i64, .int .i64, .int .i64]⟩),
  (123, ⟨1, 8, false, [.v .nilf], .other, none⟩),
  (124, ⟨1, 8, false, [.v .nilf], .other, none⟩),
  (125, ⟨1, 8, false, [.v .nilf], .other, none⟩),
  (126, ⟨1, 8, false, [.v .nilf], .other, none⟩),
  (127, ⟨1, 8, false, [.v .nilf], .other, none⟩),
  (128, ⟨1, 8, false, [.v (.int .u64 0)], .int .u64, none⟩),
  (129, ⟨1, 8, false, [.v .nilf], .other, none⟩),
  (130, ⟨1, 8, false, [.v .nilf], .other, none⟩),
  (131, ⟨1, 8, false, [.v .nilf], .other, none⟩),
  (133, ⟨1, 8, false, [.v .nilf], .other, none⟩),
  (134, ⟨1, 8, false, [.v .nilf], .other, none⟩),
  (136, ⟨1, 8, false, [.v .nilf], .other, none⟩),
  (137, ⟨1, 8, false, [.v .nilf], .other, none⟩),
  (138, ⟨1, 8, false, [.v .nilf], .other, none⟩),
  (139, ⟨1, 8, false, [.v .nilf], .other, none⟩),
  (140, ⟨1, 8, false, [.v .nilf], .other, none⟩),
  (141, ⟨1, 8, false, [.v .nilf], .other, none⟩),
  (143, ⟨1, 8, false, [.v .nilf], .other, none⟩),
  (145, ⟨1, 8, false, [.v .nilf], .other, none⟩),
  (146, ⟨1, 8, false, [.v .nilf], .other, none⟩),
  (147, ⟨1, 8, false, [.v .nilf], .other, none⟩),
  (148, ⟨4, 40, true, [.v .nilp, .v .nilp, .v .nilp, .v (.str ⟨#[]⟩)], .struct [⟨0, 1, false⟩, ⟨1, 1, false⟩, ⟨2, 1, false⟩, ⟨3, 1, false⟩], none⟩),
  (149, ⟨4, 40, true, [.v .nilp, .v .nilp, .v .nilp, .v (.str ⟨#[]⟩)], .struct [⟨0, 1, false⟩, ⟨1, 1, false⟩, ⟨2, 1, false⟩, ⟨3, 1, false⟩], none⟩),
  (150, ⟨0, 0, true, [], .array 0 16, none⟩),
  (151, ⟨0, 0, true, [], .struct [⟨0, 0, true⟩], none⟩),
  (152, ⟨0, 0, true, [], .struct [⟨0, 0, true⟩], none⟩),
  (153, ⟨1, 1, false, [.v (.int .u8 0)], .int .u8, none⟩),
  (154, ⟨1, 1, false, [.v (.int .u8 0)], .int .u8, none⟩),
  (155, ⟨1, 8, false, [.v .nilf], .other, none⟩),
  (156, ⟨1, 4, false, [.v (.int .i32 0)], .int .i32, none⟩),
  (157, ⟨1, 4, false, [.v (.int .i32 0)], .int .i32, none⟩),
  (158, ⟨11, 48, true, [.v (.int .u64 0), .v (.int .u64 0), .v (.int .u32 0), .v (.int .u8 0), .v (.int .u8 0), .v (.int .u8 0), .v (.int .u8 0), .v .nilf, .v .nilp, .v (.int .i32 0), .v (.int .i32 0)], .struct [⟨0, 1, false⟩, ⟨1, 1, false⟩, ⟨2, 1, false⟩, ⟨3, 1, false⟩, ⟨4, 1, false⟩, ⟨5, 1, false⟩, ⟨6, 1, false⟩, ⟨7, 1, false⟩, ⟨8, 1, false⟩, ⟨9, 1, false⟩, ⟨10, 1, false⟩], none⟩),
  (159, ⟨11, 48, true, [.v (.int .u64 0), .v (.int .u64 0), .v (.int .u32 0), .v (.int .u8 0), .v (.int .u8 0), .v (.int .u8 0), .v (.int .u8 0), .v .nilf, .v .nilp, .v (.int .i32 0), .v (.int .i32 0)], .struct [⟨0, 1, false⟩, ⟨1, 1, false⟩, ⟨2, 1, false⟩, ⟨3, 1, false⟩, ⟨4, 1, false⟩, ⟨5, 1, false⟩, ⟨6, 1, false⟩, ⟨7, 1, false⟩, ⟨8, 1, false⟩, ⟨9, 1, false⟩, ⟨10, 1, false⟩], none⟩)]
theorem tab_ok : tab.all (fun x => tyIs Try.prog x.1 x.2) = true := by kernel_rfl

structure PortValue where
  fPort : Int
  fValue : Int
deriving DecidableEq
def tiPortValue : RT PortValue where
  elt := 77
  sz := 2
  cells := fun x => [.int .i64 x.fPort, .int .i64 x.fValue]
  ofK := fun l K => match l with
    | [.int .i64 a0, .int .i64 a1] => K ⟨a0, a1⟩
    | _ => none
theorem tiPortValue_ok (P : Program) (h : ∃ inf, P.info? 77 = some inf ∧ inf.size = 2) : RTOk P tiPortValue where
  len := fun _ => rfl
  plain := fun x s hs => by
    simp only [tiPortValue, List.mem_cons, List.not_mem_nil, or_false] at hs
    rcases hs with rfl | rfl <;> rfl
  of := fun l K r e => by
    simp only [tiPortValue] at e ⊢
    split at e
    · exact ⟨_, e, rfl⟩
    · cases e
  info := let ⟨inf, h1, h2⟩ := h; ⟨inf, h1, h2, by decide⟩
structure Stage where
  fReg : Int
  fText : ByteArray
deriving DecidableEq
def tiStage : RT Stage where
  elt := 94
  sz := 2
  cells := fun x => [.int .i64 x.fReg, .str x.fText]
  ofK := fun l K => match l with
    | [.int .i64 a0, .str a1] => K ⟨a0, a1⟩
    | _ => none
theorem tiStage_ok (P : Program) (h : ∃ inf, P.info? 94 = some inf ∧ inf.size = 2) : RTOk P tiStage where
  len := fun _ => rfl
  plain := fun x s hs => by
    simp only [tiStage, List.mem_cons, List.not_mem_nil, or_false] at hs
    rcases hs with rfl | rfl <;> rfl
  of := fun l K r e => by
    simp only [tiStage] at e ⊢
    split at e
    · exact ⟨_, e, rfl⟩
    · cases e
  info := let ⟨inf, h1, h2⟩ := h; ⟨inf, h1, h2, by decide⟩
def tlPortValue : RT PortValue where
  elt := 107
  sz := 2
  cells := fun x => [.int .i64 x.fPort, .int .i64 x.fValue]
  ofK := fun l K => match l with
    | [.int .i64 a0, .int .i64 a1] => K ⟨a0, a1⟩
    | _ => none
theorem tlPortValue_ok (P : Program) (h : ∃ inf, P.info? 107 = some inf ∧ inf.size = 2) : RTOk P tlPortValue where
  len := fun _ => rfl
  plain := fun x s hs => by
    simp only [tlPortValue, List.mem_cons, List.not_mem_nil, or_false] at hs
    rcases hs with rfl | rfl <;> rfl
  of := fun l K r e => by
    simp only [tlPortValue] at e ⊢
    split at e
    · exact ⟨_, e, rfl⟩
    · cases e
  info := let ⟨inf, h1, h2⟩ := h; ⟨inf, h1, h2, by decide⟩
structure Device where
  fKind : Int
  fPort : Int
  fLine : Int
deriving DecidableEq
def tiDevice : RT Device where
  elt := 116
  sz := 3
  cells := fun x => [.int .i64 x.fKind, .int .i64 x.fPort, .int .i64 x.fLine]
  ofK := fun l K => match l with
    | [.int .i64 a0, .int .i64 a1, .int .i64 a2] => K ⟨a0, a1, a2⟩
    | _ => none
theorem tiDevice_ok (P : Program) (h : ∃ inf, P.info? 116 = some inf ∧ inf.size = 3) : RTOk P tiDevice where
  len := fun _ => rfl
  plain := fun x s hs => by
    simp only [tiDevice, List.mem_cons, List.not_mem_nil, or_false] at hs
    rcases hs with rfl | rfl | rfl <;> rfl
  of := fun l K r e => by
    simp only [tiDevice] at e ⊢
    split at e
    · exact ⟨_, e, rfl⟩
    · cases e
  info := let ⟨inf, h1, h2⟩ := h; ⟨inf, h1, h2, by decide⟩
structure FirmTable where
  fName : ByteArray
  fRev : Int
  fBody : ByteArray
deriving DecidableEq
def tiFirmTable : RT FirmTable where
  elt := 119
  sz := 3
  cells := fun x => [.str x.fName, .int .i64 x.fRev, .str x.fBody]
  ofK := fun l K => match l with
    | [.str a0, .int .i64 a1, .str a2] => K ⟨a0, a1, a2⟩
    | _ => none
theorem tiFirmTable_ok (P : Program) (h : ∃ inf, P.info? 119 = some inf ∧ inf.size = 3) : RTOk P tiFirmTable where
  len := fun _ => rfl
  plain := fun x s hs => by
    simp only [tiFirmTable, List.mem_cons, List.not_mem_nil, or_false] at hs
    rcases hs with rfl | rfl | rfl <;> rfl
  of := fun l K r e => by
    simp only [tiFirmTable] at e ⊢
    split at e
    · exact ⟨_, e, rfl⟩
    · cases e
  info := let ⟨inf, h1, h2⟩ := h; ⟨inf, h1, h2, by decide⟩
def tlDevice : RT Device where
  elt := 122
  sz := 3
  cells := fun x => [.int .i64 x.fKind, .int .i64 x.fPort, .int .i64 x.fLine]
  ofK := fun l K => match l with
    | [.int .i64 a0, .int .i64 a1, .int .i64 a2] => K ⟨a0, a1, a2⟩
    | _ => none
theorem tlDevice_ok (P : Program) (h : ∃ inf, P.info? 122 = some inf ∧ inf.size = 3) : RTOk P tlDevice where
  len := fun _ => rfl
  plain := fun x s hs => by
    simp only [tlDevice, List.mem_cons, List.not_mem_nil, or_false] at hs
    rcases hs with rfl | rfl | rfl <;> rfl
  of := fun l K r e => by
    simp only [tlDevice] at e ⊢
    split at e
    · exact ⟨_, e, rfl⟩
    · cases e
  info := let ⟨inf, h1, h2⟩ := h; ⟨inf, h1, h2, by decide⟩
inductive B where
  | i64 (l : List Int)
  | u8 (l : List Int)
  | str (l : List ByteArray)
  | iPortValue (l : List PortValue)
  | iStage (l : List Stage)
  | lPortValue (l : List PortValue)
  | iDevice (l : List Device)
  | iFirmTable (l : List FirmTable)
  | lDevice (l : List Device)

abbrev ri64 : RT Int := rtInt 2 .i64
abbrev ru8 : RT Int := rtInt 5 .u8
abbrev rstr : RT ByteArray := rtStr 9
abbrev riPortValue : RT PortValue := tiPortValue
abbrev riStage : RT Stage := tiStage
abbrev rlPortValue : RT PortValue := tlPortValue
abbrev riDevice : RT Device := tiDevice
abbrev riFirmTable : RT FirmTable := tiFirmTable
abbrev rlDevice : RT Device := tlDevice
def B.elt : B → TypeId
  | .i64 _ => 2
  | .u8 _ => 5
  | .str _ => 9
  | .iPortValue _ => 77
  | .iStage _ => 94
  | .lPortValue _ => 107
  | .iDevice _ => 116
  | .iFirmTable _ => 119
  | .lDevice _ => 122
def B.sz : B → Nat
  | .i64 _ => 1
  | .u8 _ => 1
  | .str _ => 1
  | .iPortValue _ => 2
  | .iStage _ => 2
  | .lPortValue _ => 2
  | .iDevice _ => 3
  | .iFirmTable _ => 3
  | .lDevice _ => 3
def B.cells : B → List SV
  | .i64 l => rtCells ri64 l
  | .u8 l => rtCells ru8 l
  | .str l => rtCells rstr l
  | .iPortValue l => rtCells riPortValue l
  | .iStage l => rtCells riStage l
  | .lPortValue l => rtCells rlPortValue l
  | .iDevice l => rtCells riDevice l
  | .iFirmTable l => rtCells riFirmTable l
  | .lDevice l => rtCells rlDevice l
def B.len : B → Nat
  | .i64 l => l.length
  | .u8 l => l.length
  | .str l => l.length
  | .iPortValue l => l.length
  | .iStage l => l.length
  | .lPortValue l => l.length
  | .iDevice l => l.length
  | .iFirmTable l => l.length
  | .lDevice l => l.length
section
variable {α : Type}
def B.rowK : B → Nat → (List SV → Option α) → Option α
  | .i64 l, n, K => rtRow ri64 l n K
  | .u8 l, n, K => rtRow ru8 l n K
  | .str l, n, K => rtRow rstr l n K
  | .iPortValue l, n, K => rtRow riPortValue l n K
  | .iStage l, n, K => rtRow riStage l n K
  | .lPortValue l, n, K => rtRow rlPortValue l n K
  | .iDevice l, n, K => rtRow riDevice l n K
  | .iFirmTable l, n, K => rtRow riFirmTable l n K
  | .lDevice l, n, K => rtRow rlDevice l n K
def B.setK : B → Nat → List SV → (B → Option α) → Option α
  | .i64 l, n, v, K => rtSet ri64 l n v fun l => K (.i64 l)
  | .u8 l, n, v, K => rtSet ru8 l n v fun l => K (.u8 l)
  | .str l, n, v, K => rtSet rstr l n v fun l => K (.str l)
  | .iPortValue l, n, v, K => rtSet riPortValue l n v fun l => K (.iPortValue l)
  | .iStage l, n, v, K => rtSet riStage l n v fun l => K (.iStage l)
  | .lPortValue l, n, v, K => rtSet rlPortValue l n v fun l => K (.lPortValue l)
  | .iDevice l, n, v, K => rtSet riDevice l n v fun l => K (.iDevice l)
  | .iFirmTable l, n, v, K => rtSet riFirmTable l n v fun l => K (.iFirmTable l)
  | .lDevice l, n, v, K => rtSet rlDevice l n v fun l => K (.lDevice l)
def B.appK : B → B → (B → Option α) → Option α
  | .i64 a, .i64 b, K => K (.i64 (a ++ b))
  | .u8 a, .u8 b, K => K (.u8 (a ++ b))
  | .str a, .str b, K => K (.str (a ++ b))
  | .iPortValue a, .iPortValue b, K => K (.iPortValue (a ++ b))
  | .iStage a, .iStage b, K => K (.iStage (a ++ b))
  | .lPortValue a, .lPortValue b, K => K (.lPortValue (a ++ b))
  | .iDevice a, .iDevice b, K => K (.iDevice (a ++ b))
  | .iFirmTable a, .iFirmTable b, K => K (.iFirmTable (a ++ b))
  | .lDevice a, .lDevice b, K => K (.lDevice (a ++ b))
  | _, _, _ => none
def B.mkK (t : TypeId) (ls : List (List SV)) (K : B → Option α) : Option α := cond (Nat.beq t 2) (rtMk ri64 ls fun l => K (.i64 l)) (cond (Nat.beq t 5) (rtMk ru8 ls fun l => K (.u8 l)) (cond (Nat.beq t 9) (rtMk rstr ls fun l => K (.str l)) (cond (Nat.beq t 77) (rtMk riPortValue ls fun l => K (.iPortValue l)) (cond (Nat.beq t 94) (rtMk riStage ls fun l => K (.iStage l)) (cond (Nat.beq t 107) (rtMk rlPortValue ls fun l => K (.lPortValue l)) (cond (Nat.beq t 116) (rtMk riDevice ls fun l => K (.iDevice l)) (cond (Nat.beq t 119) (rtMk riFirmTable ls fun l => K (.iFirmTable l)) (cond (Nat.beq t 122) (rtMk rlDevice ls fun l => K (.lDevice l)) (none)))))))))
def B.zeroK (t : TypeId) (n : Nat) (K : B → Option α) : Option α := cond (Nat.beq t 2) (K (.i64 (List.replicate n 0))) (cond (Nat.beq t 5) (K (.u8 (List.replicate n 0))) (cond (Nat.beq t 9) (K (.str (List.replicate n ⟨#[]⟩))) (cond (Nat.beq t 77) (K (.iPortValue (List.replicate n ⟨0, 0⟩))) (cond (Nat.beq t 94) (K (.iStage (List.replicate n ⟨0, ⟨#[]⟩⟩))) (cond (Nat.beq t 107) (K (.lPortValue (List.replicate n ⟨0, 0⟩))) (cond (Nat.beq t 116) (K (.iDevice (List.replicate n ⟨0, 0, 0⟩))) (cond (Nat.beq t 119) (K (.iFirmTable (List.replicate n ⟨⟨#[]⟩, 0, ⟨#[]⟩⟩))) (cond (Nat.beq t 122) (K (.lDevice (List.replicate n ⟨0, 0, 0⟩))) (none)))))))))
def B.subK : B → Nat → Nat → (B → Option α) → Option α
  | .i64 l, i, n, K => rtSub l i n fun l => K (.i64 l)
  | .u8 l, i, n, K => rtSub l i n fun l => K (.u8 l)
  | .str l, i, n, K => rtSub l i n fun l => K (.str l)
  | .iPortValue l, i, n, K => rtSub l i n fun l => K (.iPortValue l)
  | .iStage l, i, n, K => rtSub l i n fun l => K (.iStage l)
  | .lPortValue l, i, n, K => rtSub l i n fun l => K (.lPortValue l)
  | .iDevice l, i, n, K => rtSub l i n fun l => K (.iDevice l)
  | .iFirmTable l, i, n, K => rtSub l i n fun l => K (.iFirmTable l)
  | .lDevice l, i, n, K => rtSub l i n fun l => K (.lDevice l)
def B.ovK : B → Nat → B → (B → Option α) → Option α
  | .i64 a, i, .i64 b, K => rtOv a i b fun l => K (.i64 l)
  | .u8 a, i, .u8 b, K => rtOv a i b fun l => K (.u8 l)
  | .str a, i, .str b, K => rtOv a i b fun l => K (.str l)
  | .iPortValue a, i, .iPortValue b, K => rtOv a i b fun l => K (.iPortValue l)
  | .iStage a, i, .iStage b, K => rtOv a i b fun l => K (.iStage l)
  | .lPortValue a, i, .lPortValue b, K => rtOv a i b fun l => K (.lPortValue l)
  | .iDevice a, i, .iDevice b, K => rtOv a i b fun l => K (.iDevice l)
  | .iFirmTable a, i, .iFirmTable b, K => rtOv a i b fun l => K (.iFirmTable l)
  | .lDevice a, i, .lDevice b, K => rtOv a i b fun l => K (.lDevice l)
  | _, _, _, _ => none
def B.strK : B → Nat → Nat → (ByteArray → Option α) → Option α
  | .u8 l, i, n, K => cond (Nat.ble (i + n) l.length) (K (toBytes (seg l i n))) none
  | _, _, _, _ => none
def B.bytesK (t : TypeId) (s : ByteArray) (K : B → Option α) : Option α := cond (Nat.beq t 5) (K (.u8 (ofBytes s))) (none)
end
noncomputable def E : Env where
  P := Try.prog
  B := B
  elt := B.elt
  sz := B.sz
  cells := B.cells
  len := B.len
  rowK := B.rowK
  setK := B.setK
  appK := B.appK
  mkK := B.mkK
  zeroK := B.zeroK
  subK := B.subK
  strK := B.strK
  bytesK := B.bytesK
  ovK := B.ovK
  ty := fun t => tabLook t tab
  named := fun t => Nat.beq t 69
  wide := fun f => [3, 4, 5, 9, 12, 14, 16, 19, 20, 33, 36, 37, 48, 57, 60, 62, 63, 64, 80, 87, 98, 100, 108, 119, 122].any (Nat.beq f)

theorem ri64_ok : RTOk Try.prog ri64 := rtInt_ok ⟨Try.t2, by kernel_rfl, by kernel_rfl⟩
theorem ru8_ok : RTOk Try.prog ru8 := rtInt_ok ⟨Try.t5, by kernel_rfl, by kernel_rfl⟩
theorem rstr_ok : RTOk Try.prog rstr := rtStr_ok ⟨Try.t9, by kernel_rfl, by kernel_rfl⟩
theorem riPortValue_ok : RTOk Try.prog riPortValue := tiPortValue_ok _ ⟨Try.t77, by kernel_rfl, by kernel_rfl⟩
theorem riStage_ok : RTOk Try.prog riStage := tiStage_ok _ ⟨Try.t94, by kernel_rfl, by kernel_rfl⟩
theorem rlPortValue_ok : RTOk Try.prog rlPortValue := tlPortValue_ok _ ⟨Try.t107, by kernel_rfl, by kernel_rfl⟩
theorem riDevice_ok : RTOk Try.prog riDevice := tiDevice_ok _ ⟨Try.t116, by kernel_rfl, by kernel_rfl⟩
theorem riFirmTable_ok : RTOk Try.prog riFirmTable := tiFirmTable_ok _ ⟨Try.t119, by kernel_rfl, by kernel_rfl⟩
theorem rlDevice_ok : RTOk Try.prog rlDevice := tlDevice_ok _ ⟨Try.t122, by kernel_rfl, by kernel_rfl⟩
section
variable {α : Type}
theorem B.rowK_ok {b : B} {n : Nat} {K : List SV → Option α} {r : α} (h : b.rowK n K = some r) : ∃ l, K l = some r ∧ l.length = b.sz ∧ n < b.len ∧ l = seg b.cells (n * b.sz) b.sz := by
  cases b
  · exact rtRow_ok ri64_ok h
  · exact rtRow_ok ru8_ok h
  · exact rtRow_ok rstr_ok h
  · exact rtRow_ok riPortValue_ok h
  · exact rtRow_ok riStage_ok h
  · exact rtRow_ok rlPortValue_ok h
  · exact rtRow_ok riDevice_ok h
  · exact rtRow_ok riFirmTable_ok h
  · exact rtRow_ok rlDevice_ok h
theorem B.setK_ok {b : B} {n : Nat} {l : List SV} {K : B → Option α} {r : α} (h : b.setK n l K = some r) : ∃ b', K b' = some r ∧ b'.elt = b.elt ∧ b'.sz = b.sz ∧ b'.len = b.len ∧ l.length = b.sz ∧ n < b.len ∧ b'.cells = splice b.cells (n * b.sz) l := by
  cases b
  · unfold B.setK at h
    obtain ⟨ys, hK, h1, h2, h3, h4⟩ := rtSet_ok ri64_ok h
    exact ⟨.i64 ys, hK, rfl, rfl, h1, h2, h3, h4⟩
  · unfold B.setK at h
    obtain ⟨ys, hK, h1, h2, h3, h4⟩ := rtSet_ok ru8_ok h
    exact ⟨.u8 ys, hK, rfl, rfl, h1, h2, h3, h4⟩
  · unfold B.setK at h
    obtain ⟨ys, hK, h1, h2, h3, h4⟩ := rtSet_ok rstr_ok h
    exact ⟨.str ys, hK, rfl, rfl, h1, h2, h3, h4⟩
  · unfold B.setK at h
    obtain ⟨ys, hK, h1, h2, h3, h4⟩ := rtSet_ok riPortValue_ok h
    exact ⟨.iPortValue ys, hK, rfl, rfl, h1, h2, h3, h4⟩
  · unfold B.setK at h
    obtain ⟨ys, hK, h1, h2, h3, h4⟩ := rtSet_ok riStage_ok h
    exact ⟨.iStage ys, hK, rfl, rfl, h1, h2, h3, h4⟩
  · unfold B.setK at h
    obtain ⟨ys, hK, h1, h2, h3, h4⟩ := rtSet_ok rlPortValue_ok h
    exact ⟨.lPortValue ys, hK, rfl, rfl, h1, h2, h3, h4⟩
  · unfold B.setK at h
    obtain ⟨ys, hK, h1, h2, h3, h4⟩ := rtSet_ok riDevice_ok h
    exact ⟨.iDevice ys, hK, rfl, rfl, h1, h2, h3, h4⟩
  · unfold B.setK at h
    obtain ⟨ys, hK, h1, h2, h3, h4⟩ := rtSet_ok riFirmTable_ok h
    exact ⟨.iFirmTable ys, hK, rfl, rfl, h1, h2, h3, h4⟩
  · unfold B.setK at h
    obtain ⟨ys, hK, h1, h2, h3, h4⟩ := rtSet_ok rlDevice_ok h
    exact ⟨.lDevice ys, hK, rfl, rfl, h1, h2, h3, h4⟩
theorem B.appK_ok {a b : B} {K : B → Option α} {r : α} (h : a.appK b K = some r) : ∃ c, K c = some r ∧ c.elt = a.elt ∧ c.sz = a.sz ∧ b.sz = a.sz ∧ c.len = a.len + b.len ∧ c.cells = a.cells ++ b.cells := by
  cases a <;> cases b <;> first | (unfold B.appK at h; cases h; done) | exact ⟨_, h, rfl, rfl, rfl, List.length_append, rtCells_append _ _ _⟩
theorem B.mkK_ok {t : TypeId} {ls : List (List SV)} {K : B → Option α} {r : α} (h : B.mkK t ls K = some r) : ∃ b, K b = some r ∧ b.elt = t ∧ b.len = ls.length ∧ b.cells = ls.flatten ∧ ∀ l ∈ ls, l.length = b.sz := by
  unfold B.mkK at h
  rcases cond_some h with ⟨e0, h0⟩ | ⟨_, h0⟩
  · obtain ⟨xs, hK, h1, h2, h3⟩ := rtMk_ok ri64_ok h0
    exact ⟨_, hK, (Nat.eq_of_beq_eq_true e0).symm, h1, h2, h3⟩
  rcases cond_some h0 with ⟨e1, h1⟩ | ⟨_, h1⟩
  · obtain ⟨xs, hK, h1, h2, h3⟩ := rtMk_ok ru8_ok h1
    exact ⟨_, hK, (Nat.eq_of_beq_eq_true e1).symm, h1, h2, h3⟩
  rcases cond_some h1 with ⟨e2, h2⟩ | ⟨_, h2⟩
  · obtain ⟨xs, hK, h1, h2, h3⟩ := rtMk_ok rstr_ok h2
    exact ⟨_, hK, (Nat.eq_of_beq_eq_true e2).symm, h1, h2, h3⟩
  rcases cond_some h2 with ⟨e3, h3⟩ | ⟨_, h3⟩
  · obtain ⟨xs, hK, h1, h2, h3⟩ := rtMk_ok riPortValue_ok h3
    exact ⟨_, hK, (Nat.eq_of_beq_eq_true e3).symm, h1, h2, h3⟩
  rcases cond_some h3 with ⟨e4, h4⟩ | ⟨_, h4⟩
  · obtain ⟨xs, hK, h1, h2, h3⟩ := rtMk_ok riStage_ok h4
    exact ⟨_, hK, (Nat.eq_of_beq_eq_true e4).symm, h1, h2, h3⟩
  rcases cond_some h4 with ⟨e5, h5⟩ | ⟨_, h5⟩
  · obtain ⟨xs, hK, h1, h2, h3⟩ := rtMk_ok rlPortValue_ok h5
    exact ⟨_, hK, (Nat.eq_of_beq_eq_true e5).symm, h1, h2, h3⟩
  rcases cond_some h5 with ⟨e6, h6⟩ | ⟨_, h6⟩
  · obtain ⟨xs, hK, h1, h2, h3⟩ := rtMk_ok riDevice_ok h6
    exact ⟨_, hK, (Nat.eq_of_beq_eq_true e6).symm, h1, h2, h3⟩
  rcases cond_some h6 with ⟨e7, h7⟩ | ⟨_, h7⟩
  · obtain ⟨xs, hK, h1, h2, h3⟩ := rtMk_ok riFirmTable_ok h7
    exact ⟨_, hK, (Nat.eq_of_beq_eq_true e7).symm, h1, h2, h3⟩
  rcases cond_some h7 with ⟨e8, h8⟩ | ⟨_, h8⟩
  · obtain ⟨xs, hK, h1, h2, h3⟩ := rtMk_ok rlDevice_ok h8
    exact ⟨_, hK, (Nat.eq_of_beq_eq_true e8).symm, h1, h2, h3⟩
  cases h8
theorem B.zeroK_ok {t : TypeId} {n : Nat} {K : B → Option α} {r : α} (h : B.zeroK t n K = some r) : ∃ b, K b = some r ∧ b.elt = t ∧ b.len = n ∧ ∃ ti z, tabLook t tab = some ti ∧ ti.zero = z.map .v ∧ z.length = b.sz ∧ b.cells = (List.replicate n z).flatten := by
  unfold B.zeroK at h
  rcases cond_some h with ⟨e0, h0⟩ | ⟨_, h0⟩
  · have e := Nat.eq_of_beq_eq_true e0
    subst e
    exact ⟨_, h0, rfl, List.length_replicate, _, [.int .i64 0], rfl, rfl, rfl, rtCells_replicate _ _ _⟩
  rcases cond_some h0 with ⟨e1, h1⟩ | ⟨_, h1⟩
  · have e := Nat.eq_of_beq_eq_true e1
    subst e
    exact ⟨_, h1, rfl, List.length_replicate, _, [.int .u8 0], rfl, rfl, rfl, rtCells_replicate _ _ _⟩
  rcases cond_some h1 with ⟨e2, h2⟩ | ⟨_, h2⟩
  · have e := Nat.eq_of_beq_eq_true e2
    subst e
    exact ⟨_, h2, rfl, List.length_replicate, _, [.str ⟨#[]⟩], rfl, rfl, rfl, rtCells_replicate _ _ _⟩
  rcases cond_some h2 with ⟨e3, h3⟩ | ⟨_, h3⟩
  · have e := Nat.eq_of_beq_eq_true e3
    subst e
    exact ⟨_, h3, rfl, List.length_replicate, _, [.int .i64 0, .int .i64 0], rfl, rfl, rfl, rtCells_replicate _ _ _⟩
  rcases cond_some h3 with ⟨e4, h4⟩ | ⟨_, h4⟩
  · have e := Nat.eq_of_beq_eq_true e4
    subst e
    exact ⟨_, h4, rfl, List.length_replicate, _, [.int .i64 0, .str ⟨#[]⟩], rfl, rfl, rfl, rtCells_replicate _ _ _⟩
  rcases cond_some h4 with ⟨e5, h5⟩ | ⟨_, h5⟩
  · have e := Nat.eq_of_beq_eq_true e5
    subst e
    exact ⟨_, h5, rfl, List.length_replicate, _, [.int .i64 0, .int .i64 0], rfl, rfl, rfl, rtCells_replicate _ _ _⟩
  rcases cond_some h5 with ⟨e6, h6⟩ | ⟨_, h6⟩
  · have e := Nat.eq_of_beq_eq_true e6
    subst e
    exact ⟨_, h6, rfl, List.length_replicate, _, [.int .i64 0, .int .i64 0, .int .i64 0], rfl, rfl, rfl, rtCells_replicate _ _ _⟩
  rcases cond_some h6 with ⟨e7, h7⟩ | ⟨_, h7⟩
  · have e := Nat.eq_of_beq_eq_true e7
    subst e
    exact ⟨_, h7, rfl, List.length_replicate, _, [.str ⟨#[]⟩, .int .i64 0, .str ⟨#[]⟩], rfl, rfl, rfl, rtCells_replicate _ _ _⟩
  rcases cond_some h7 with ⟨e8, h8⟩ | ⟨_, h8⟩
  · have e := Nat.eq_of_beq_eq_true e8
    subst e
    exact ⟨_, h8, rfl, List.length_replicate, _, [.int .i64 0, .int .i64 0, .int .i64 0], rfl, rfl, rfl, rtCells_replicate _ _ _⟩
  cases h8
theorem B.subK_ok {b : B} {i n : Nat} {K : B → Option α} {r : α} (h : b.subK i n K = some r) : ∃ b', K b' = some r ∧ b'.elt = b.elt ∧ b'.sz = b.sz ∧ b'.len = n ∧ i + n ≤ b.len ∧ b'.cells = seg b.cells (i * b.sz) (n * b.sz) := by
  cases b
  · unfold B.subK at h
    obtain ⟨ys, hK, h1, h2, h3⟩ := rtSub_ok ri64_ok h
    exact ⟨.i64 ys, hK, rfl, rfl, h1, h2, h3⟩
  · unfold B.subK at h
    obtain ⟨ys, hK, h1, h2, h3⟩ := rtSub_ok ru8_ok h
    exact ⟨.u8 ys, hK, rfl, rfl, h1, h2, h3⟩
  · unfold B.subK at h
    obtain ⟨ys, hK, h1, h2, h3⟩ := rtSub_ok rstr_ok h
    exact ⟨.str ys, hK, rfl, rfl, h1, h2, h3⟩
  · unfold B.subK at h
    obtain ⟨ys, hK, h1, h2, h3⟩ := rtSub_ok riPortValue_ok h
    exact ⟨.iPortValue ys, hK, rfl, rfl, h1, h2, h3⟩
  · unfold B.subK at h
    obtain ⟨ys, hK, h1, h2, h3⟩ := rtSub_ok riStage_ok h
    exact ⟨.iStage ys, hK, rfl, rfl, h1, h2, h3⟩
  · unfold B.subK at h
    obtain ⟨ys, hK, h1, h2, h3⟩ := rtSub_ok rlPortValue_ok h
    exact ⟨.lPortValue ys, hK, rfl, rfl, h1, h2, h3⟩
  · unfold B.subK at h
    obtain ⟨ys, hK, h1, h2, h3⟩ := rtSub_ok riDevice_ok h
    exact ⟨.iDevice ys, hK, rfl, rfl, h1, h2, h3⟩
  · unfold B.subK at h
    obtain ⟨ys, hK, h1, h2, h3⟩ := rtSub_ok riFirmTable_ok h
    exact ⟨.iFirmTable ys, hK, rfl, rfl, h1, h2, h3⟩
  · unfold B.subK at h
    obtain ⟨ys, hK, h1, h2, h3⟩ := rtSub_ok rlDevice_ok h
    exact ⟨.lDevice ys, hK, rfl, rfl, h1, h2, h3⟩
theorem B.ovK_ok {a b : B} {i : Nat} {K : B → Option α} {r : α} (h : a.ovK i b K = some r) : ∃ a', K a' = some r ∧ a'.elt = a.elt ∧ a'.sz = a.sz ∧ a'.len = a.len ∧ b.sz = a.sz ∧ i + b.len ≤ a.len ∧ a'.cells = splice a.cells (i * a.sz) b.cells := by
  cases a <;> cases b <;> first | (unfold B.ovK at h; cases h; done) | skip
  · unfold B.ovK at h
    obtain ⟨ys, hK, h1, h2, h3⟩ := rtOv_ok ri64_ok h
    exact ⟨.i64 ys, hK, rfl, rfl, h1, rfl, h2, h3⟩
  · unfold B.ovK at h
    obtain ⟨ys, hK, h1, h2, h3⟩ := rtOv_ok ru8_ok h
    exact ⟨.u8 ys, hK, rfl, rfl, h1, rfl, h2, h3⟩
  · unfold B.ovK at h
    obtain ⟨ys, hK, h1, h2, h3⟩ := rtOv_ok rstr_ok h
    exact ⟨.str ys, hK, rfl, rfl, h1, rfl, h2, h3⟩
  · unfold B.ovK at h
    obtain ⟨ys, hK, h1, h2, h3⟩ := rtOv_ok riPortValue_ok h
    exact ⟨.iPortValue ys, hK, rfl, rfl, h1, rfl, h2, h3⟩
  · unfold B.ovK at h
    obtain ⟨ys, hK, h1, h2, h3⟩ := rtOv_ok riStage_ok h
    exact ⟨.iStage ys, hK, rfl, rfl, h1, rfl, h2, h3⟩
  · unfold B.ovK at h
    obtain ⟨ys, hK, h1, h2, h3⟩ := rtOv_ok rlPortValue_ok h
    exact ⟨.lPortValue ys, hK, rfl, rfl, h1, rfl, h2, h3⟩
  · unfold B.ovK at h
    obtain ⟨ys, hK, h1, h2, h3⟩ := rtOv_ok riDevice_ok h
    exact ⟨.iDevice ys, hK, rfl, rfl, h1, rfl, h2, h3⟩
  · unfold B.ovK at h
    obtain ⟨ys, hK, h1, h2, h3⟩ := rtOv_ok riFirmTable_ok h
    exact ⟨.iFirmTable ys, hK, rfl, rfl, h1, rfl, h2, h3⟩
  · unfold B.ovK at h
    obtain ⟨ys, hK, h1, h2, h3⟩ := rtOv_ok rlDevice_ok h
    exact ⟨.lDevice ys, hK, rfl, rfl, h1, rfl, h2, h3⟩
theorem B.strK_ok {b : B} {i n : Nat} {K : ByteArray → Option α} {r : α} (h : b.strK i n K = some r) : ∃ ns : List Int, K ⟨(ns.map fun x => UInt8.ofNat x.toNat).toArray⟩ = some r ∧ b.sz = 1 ∧ i + n ≤ b.len ∧ ns.length = n ∧ seg b.cells i n = ns.map (.int .u8 ·) := by
  cases b
  · cases h
  · unfold B.strK at h
    obtain ⟨hn, hK⟩ := cond_none_right h
    have hn := Nat.le_of_ble_eq_true hn
    refine ⟨seg _ i n, hK, rfl, hn, seg_length _ _ _ hn, ?_⟩
    have h1 := rtCells_seg ru8_ok ‹_› i n
    simp only [rtInt, Nat.mul_one] at h1
    exact h1.symm.trans (rtInt_map _ _ _)
  · cases h
  · cases h
  · cases h
  · cases h
  · cases h
  · cases h
  · cases h
theorem B.bytesK_ok {t : TypeId} {s : ByteArray} {K : B → Option α} {r : α} (h : B.bytesK t s K = some r) : ∃ b, K b = some r ∧ b.elt = t ∧ b.sz = 1 ∧ b.len = s.size ∧ b.cells = s.data.toList.map fun c => .int .u8 (c.toNat : Int) := by
  unfold B.bytesK at h
  rcases cond_some h with ⟨e0, h0⟩ | ⟨_, h0⟩
  · refine ⟨_, h0, (Nat.eq_of_beq_eq_true e0).symm, rfl, (List.length_map _).trans Array.length_toList, (rtInt_map _ _ _).trans ?_⟩
    unfold ofBytes
    rw [List.map_map]
    rfl
  cases h0
end
theorem B.cells_len (b : B) : b.cells.length = b.len * b.sz := by
  cases b
  · exact rtCells_length ri64_ok _
  · exact rtCells_length ru8_ok _
  · exact rtCells_length rstr_ok _
  · exact rtCells_length riPortValue_ok _
  · exact rtCells_length riStage_ok _
  · exact rtCells_length rlPortValue_ok _
  · exact rtCells_length riDevice_ok _
  · exact rtCells_length riFirmTable_ok _
  · exact rtCells_length rlDevice_ok _
theorem B.plain (b : B) : ∀ s ∈ b.cells, s.plain = true := by
  cases b
  · exact rtCells_plain ri64_ok _
  · exact rtCells_plain ru8_ok _
  · exact rtCells_plain rstr_ok _
  · exact rtCells_plain riPortValue_ok _
  · exact rtCells_plain riStage_ok _
  · exact rtCells_plain rlPortValue_ok _
  · exact rtCells_plain riDevice_ok _
  · exact rtCells_plain riFirmTable_ok _
  · exact rtCells_plain rlDevice_ok _
theorem B.info (b : B) : ∃ inf, E.P.info? b.elt = some inf ∧ inf.size = b.sz ∧ 0 < b.sz := by
  cases b
  · exact ri64_ok.info
  · exact ru8_ok.info
  · exact rstr_ok.info
  · exact riPortValue_ok.info
  · exact riStage_ok.info
  · exact rlPortValue_ok.info
  · exact riDevice_ok.info
  · exact riFirmTable_ok.info
  · exact rlDevice_ok.info
theorem wi64 : RowOf ri64 [.int .i64] := fun row h => by
  obtain ⟨a0, _, rfl, w0, h0⟩ := ck_int h
  obtain rfl := ck_nil h0
  refine ⟨a0, ⟨rfl, trivial⟩, fun s hs => ?_⟩
  have hs : s ∈ [SV.int .i64 a0] := hs
  simp only [List.mem_cons, List.not_mem_nil, or_false] at hs
  subst hs
  · exact w0
theorem wu8 : RowOf ru8 [.int .u8] := fun row h => by
  obtain ⟨a0, _, rfl, w0, h0⟩ := ck_int h
  obtain rfl := ck_nil h0
  refine ⟨a0, ⟨rfl, trivial⟩, fun s hs => ?_⟩
  have hs : s ∈ [SV.int .u8 a0] := hs
  simp only [List.mem_cons, List.not_mem_nil, or_false] at hs
  subst hs
  · exact w0
theorem wstr : RowOf rstr [.str] := fun row h => by
  obtain ⟨a0, _, rfl, w0, h0⟩ := ck_str h
  obtain rfl := ck_nil h0
  refine ⟨a0, ⟨rfl, trivial⟩, fun s hs => ?_⟩
  have hs : s ∈ [SV.str a0] := hs
  simp only [List.mem_cons, List.not_mem_nil, or_false] at hs
  subst hs
  · exact w0
theorem wiPortValue : RowOf riPortValue [.int .i64, .int .i64] := fun row h => by
  obtain ⟨a0, _, rfl, w0, h0⟩ := ck_int h
  obtain ⟨a1, _, rfl, w1, h1⟩ := ck_int h0
  obtain rfl := ck_nil h1
  refine ⟨⟨a0, a1⟩, ⟨rfl, rfl, trivial⟩, fun s hs => ?_⟩
  have hs : s ∈ [SV.int .i64 a0, SV.int .i64 a1] := hs
  simp only [List.mem_cons, List.not_mem_nil, or_false] at hs
  rcases hs with rfl | rfl
  · exact w0
  · exact w1
theorem wiStage : RowOf riStage [.int .i64, .str] := fun row h => by
  obtain ⟨a0, _, rfl, w0, h0⟩ := ck_int h
  obtain ⟨a1, _, rfl, w1, h1⟩ := ck_str h0
  obtain rfl := ck_nil h1
  refine ⟨⟨a0, a1⟩, ⟨rfl, rfl, trivial⟩, fun s hs => ?_⟩
  have hs : s ∈ [SV.int .i64 a0, SV.str a1] := hs
  simp only [List.mem_cons, List.not_mem_nil, or_false] at hs
  rcases hs with rfl | rfl
  · exact w0
  · exact w1
theorem wlPortValue : RowOf rlPortValue [.int .i64, .int .i64] := fun row h => by
  obtain ⟨a0, _, rfl, w0, h0⟩ := ck_int h
  obtain ⟨a1, _, rfl, w1, h1⟩ := ck_int h0
  obtain rfl := ck_nil h1
  refine ⟨⟨a0, a1⟩, ⟨rfl, rfl, trivial⟩, fun s hs => ?_⟩
  have hs : s ∈ [SV.int .i64 a0, SV.int .i64 a1] := hs
  simp only [List.mem_cons, List.not_mem_nil, or_false] at hs
  rcases hs with rfl | rfl
  · exact w0
  · exact w1
theorem wiDevice : RowOf riDevice [.int .i64, .int .i64, .int .i64] := fun row h => by
  obtain ⟨a0, _, rfl, w0, h0⟩ := ck_int h
  obtain ⟨a1, _, rfl, w1, h1⟩ := ck_int h0
  obtain ⟨a2, _, rfl, w2, h2⟩ := ck_int h1
  obtain rfl := ck_nil h2
  refine ⟨⟨a0, a1, a2⟩, ⟨rfl, rfl, rfl, trivial⟩, fun s hs => ?_⟩
  have hs : s ∈ [SV.int .i64 a0, SV.int .i64 a1, SV.int .i64 a2] := hs
  simp only [List.mem_cons, List.not_mem_nil, or_false] at hs
  rcases hs with rfl | rfl | rfl
  · exact w0
  · exact w1
  · exact w2
theorem wiFirmTable : RowOf riFirmTable [.str, .int .i64, .str] := fun row h => by
  obtain ⟨a0, _, rfl, w0, h0⟩ := ck_str h
  obtain ⟨a1, _, rfl, w1, h1⟩ := ck_int h0
  obtain ⟨a2, _, rfl, w2, h2⟩ := ck_str h1
  obtain rfl := ck_nil h2
  refine ⟨⟨a0, a1, a2⟩, ⟨rfl, rfl, rfl, trivial⟩, fun s hs => ?_⟩
  have hs : s ∈ [SV.str a0, SV.int .i64 a1, SV.str a2] := hs
  simp only [List.mem_cons, List.not_mem_nil, or_false] at hs
  rcases hs with rfl | rfl | rfl
  · exact w0
  · exact w1
  · exact w2
theorem wlDevice : RowOf rlDevice [.int .i64, .int .i64, .int .i64] := fun row h => by
  obtain ⟨a0, _, rfl, w0, h0⟩ := ck_int h
  obtain ⟨a1, _, rfl, w1, h1⟩ := ck_int h0
  obtain ⟨a2, _, rfl, w2, h2⟩ := ck_int h1
  obtain rfl := ck_nil h2
  refine ⟨⟨a0, a1, a2⟩, ⟨rfl, rfl, rfl, trivial⟩, fun s hs => ?_⟩
  have hs : s ∈ [SV.int .i64 a0, SV.int .i64 a1, SV.int .i64 a2] := hs
  simp only [List.mem_cons, List.not_mem_nil, or_false] at hs
  rcases hs with rfl | rfl | rfl
  · exact w0
  · exact w1
  · exact w2
theorem ok : EnvOk E where
  mixed := by kernel_rfl
  cells_len := B.cells_len
  plain := B.plain
  info := B.info
  rowK := fun _ _ _ _ h => B.rowK_ok h
  setK := fun _ _ _ _ _ h => B.setK_ok h
  appK := fun _ _ _ _ h => B.appK_ok h
  mkK := fun _ _ _ _ h => B.mkK_ok h
  zeroK := fun _ _ _ _ h => B.zeroK_ok h
  subK := fun _ _ _ _ _ h => B.subK_ok h
  strK := fun _ _ _ _ _ h => B.strK_ok h
  bytesK := fun _ _ _ _ h => B.bytesK_ok h
  ovK := fun _ _ _ _ _ h => B.ovK_ok h
  ty := fun _ _ h => tabLook_ok tab_ok h
end Go.Sa
