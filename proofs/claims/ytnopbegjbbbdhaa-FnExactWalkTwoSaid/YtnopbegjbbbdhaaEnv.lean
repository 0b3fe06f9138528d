import Derived.Test.YtnopbegjbbbdhaaOpn
import Derived.Test.YtnopbegjbbbdhaaProg
set_option linter.all false
namespace Go.Sa
open Go Go.Eng Go.Proofs
set_option maxRecDepth 100000

def tab : Tab := [
  (1, ⟨1, 8, false, [.v .nilf], .other, none⟩),
  (2, ⟨1, 8, false, [.v (.int .i64 0)], .int .i64, none⟩),
  (3, ⟨1, 8, false, [.v (.int .i64 0)], .int .i64, none⟩),
  (4, ⟨1, 1, false, [.v (.bool false)], .bool, none⟩),
  (5, ⟨1, 1, false, [.v (.int .u8 0)], .int .u8, none⟩),
  (6, ⟨1, 1, false, [.v (.int .u8 0)], .int .u8, none⟩),
  (7, ⟨4, 24, true, [.v (.int .i64 0), .v (.int .i64 0), .v (.bool false), .v (.int .u8 0)], .struct [⟨0, 1, false⟩, ⟨1, 1, false⟩, ⟨2, 1, false⟩, ⟨3, 1, false⟩], some [.int .i64, .int .i64, .bool, .int .u8]⟩),
  (8, ⟨4, 24, true, [.v (.int .i64 0), .v (.int .i64 0), .v (.bool false), .v (.int .u8 0)], .struct [⟨0, 1, false⟩, ⟨1, 1, false⟩, ⟨2, 1, false⟩, ⟨3, 1, false⟩], some [.int .i64, .int .i64, .bool, .int .u8]⟩),
  (9, ⟨1, 16, false, [.v (.str ⟨#[]⟩)], .str, none⟩),
  (10, ⟨1, 16, false, [.v (.str ⟨#[]⟩)], .str, none⟩),
  (11, ⟨1, 16, false, [.v (.str ⟨#[]⟩)], .str, none⟩),
  (12, ⟨1, 8, false, [.v (.int .u64 0)], .int .u64, none⟩),
  (15, ⟨1, 8, false, [.v .nilp], .other, none⟩),
  (16, ⟨1, 8, false, [.v .nilp], .other, none⟩),
  (17, ⟨1, 8, false, [.v .nilp], .other, none⟩),
  (18, ⟨1, 8, true, [.v .nilp], .struct [⟨0, 1, false⟩], none⟩),
  (19, ⟨1, 8, true, [.v .nilp], .struct [⟨0, 1, false⟩], none⟩),
  (21, ⟨1, 4, false, [.v (.int .i32 0)], .int .i32, none⟩),
  (22, ⟨1, 24, false, [.nils 2], .slice 2, none⟩),
  (23, ⟨6, 72, true, [.v (.int .i64 0), .v (.int .i64 0), .v (.int .i64 0), .v (.bool false), .nils 2, .v (.str ⟨#[]⟩)], .struct [⟨0, 1, false⟩, ⟨1, 1, false⟩, ⟨2, 1, false⟩, ⟨3, 1, false⟩, ⟨4, 1, false⟩, ⟨5, 1, false⟩], none⟩),
  (24, ⟨6, 72, true, [.v (.int .i64 0), .v (.int .i64 0), .v (.int .i64 0), .v (.bool false), .nils 2, .v (.str ⟨#[]⟩)], .struct [⟨0, 1, false⟩, ⟨1, 1, false⟩, ⟨2, 1, false⟩, ⟨3, 1, false⟩, ⟨4, 1, false⟩, ⟨5, 1, false⟩], none⟩),
  (25, ⟨1, 8, false, [.v .nilf], .other, none⟩),
  (26, ⟨1, 8, false, [.v .nilf], .other, none⟩),
  (27, ⟨1, 8, false, [.v .nilf], .other, none⟩),
  (28, ⟨1, 8, false, [.v .nilf], .other, none⟩),
  (29, ⟨4, 48, true, [.v (.int .i64 0), .v (.int .i64 0), .v (.str ⟨#[]⟩), .v (.str ⟨#[]⟩)], .struct [⟨0, 1, false⟩, ⟨1, 1, false⟩, ⟨2, 1, false⟩, ⟨3, 1, false⟩], some [.int .i64, .int .i64, .str, .str]⟩),
  (30, ⟨4, 48, true, [.v (.int .i64 0), .v (.int .i64 0), .v (.str ⟨#[]⟩), .v (.str ⟨#[]⟩)], .struct [⟨0, 1, false⟩, ⟨1, 1, false⟩, ⟨2, 1, false⟩, ⟨3, 1, false⟩], some [.int .i64, .int .i64, .str, .str]⟩),
  (31, ⟨1, 8, false, [.v .nilf], .other, none⟩),
  (32, ⟨1, 8, false, [.v .nilf], .other, none⟩),
  (33, ⟨1, 8, false, [.v .nilf], .other, none⟩),
  (34, ⟨1, 8, false, [.v .nilf], .other, none⟩),
  (35, ⟨1, 8, false, [.v .nilf], .other, none⟩),
  (36, ⟨1, 24, false, [.nils 117], .slice 117, none⟩),
  (37, ⟨1, 8, false, [.v .nilf], .other, none⟩),
  (38, ⟨1, 24, false, [.nils 67], .slice 67, none⟩),
  (39, ⟨3, 40, true, [.v (.int .i64 0), .v (.int .i64 0), .nils 67], .struct [⟨0, 1, false⟩, ⟨1, 1, false⟩, ⟨2, 1, false⟩], none⟩),
  (40, ⟨3, 40, true, [.v (.int .i64 0), .v (.int .i64 0), .nils 67], .struct [⟨0, 1, false⟩, ⟨1, 1, false⟩, ⟨2, 1, false⟩], none⟩),
  (41, ⟨4, 48, true, [.v (.bool false), .v (.int .i64 0), .v (.int .i64 0), .nils 67], .struct [⟨0, 1, false⟩, ⟨1, 3, true⟩], none⟩),
  (42, ⟨4, 48, true, [.v (.bool false), .v (.int .i64 0), .v (.int .i64 0), .nils 67], .struct [⟨0, 1, false⟩, ⟨1, 3, true⟩], none⟩),
  (43, ⟨1, 8, false, [.v .nilf], .other, none⟩),
  (44, ⟨1, 24, false, [.nils 62], .slice 62, none⟩),
  (45, ⟨1, 8, false, [.v .nilf], .other, none⟩),
  (46, ⟨1, 8, false, [.v .nilf], .other, none⟩),
  (47, ⟨1, 8, false, [.v .nilf], .other, none⟩),
  (48, ⟨1, 8, false, [.v .nilf], .other, none⟩),
  (49, ⟨1, 8, false, [.v .nilf], .other, none⟩),
  (50, ⟨1, 8, false, [.v .nilf], .other, none⟩),
  (51, ⟨2, 32, true, [.v (.int .i64 0), .nils 62], .struct [⟨0, 1, false⟩, ⟨1, 1, false⟩], none⟩),
  (52, ⟨2, 32, true, [.v (.int .i64 0), .nils 62], .struct [⟨0, 1, false⟩, ⟨1, 1, false⟩], none⟩),
  (53, ⟨1, 8, false, [.v .nilf], .other, none⟩),
  (54, ⟨1, 8, false, [.v .nilf], .other, none⟩),
  (55, ⟨1, 8, false, [.v .nilf], .other, none⟩),
  (56, ⟨1, 8, false, [.v .nilf], .other, none⟩),
  (57, ⟨1, 24, false, [.nils 5], .slice 5, none⟩),
  (59, ⟨1, 8, false, [.v .nilf], .other, none⟩),
  (60, ⟨1, 8, false, [.v .nilf], .other, none⟩),
  (61, ⟨3, 40, true, [.v (.str ⟨#[]⟩), .v (.int .i64 0), .v (.str ⟨#[]⟩)], .struct [⟨0, 1, false⟩, ⟨1, 1, false⟩, ⟨2, 1, false⟩], some [.str, .int .i64, .str]⟩),
  (62, ⟨3, 40, true, [.v (.str ⟨#[]⟩), .v (.int .i64 0), .v (.str ⟨#[]⟩)], .struct [⟨0, 1, false⟩, ⟨1, 1, false⟩, ⟨2, 1, false⟩], some [.str, .int .i64, .str]⟩),
  (63, ⟨1, 8, false, [.v .nilf], .other, none⟩),
  (64, ⟨1, 8, false, [.v .nilf], .other, none⟩),
  (65, ⟨1, 8, false, [.v .nilf], .other, none⟩),
  (66, ⟨3, 24, true, [.v (.int .i64 0), .v (.int .i64 0), .v (.int .i64 0)], .struct [⟨0, 1, false⟩, ⟨1, 1, false⟩, ⟨2, 1, false⟩], some [.int .i64, .int .i64, .int .i64]⟩),
  (67, ⟨3, 24, true, [.v (.int .i64 0), .v (.int .i64 0), .v (.int .i64 0)], .struct [⟨0, 1, false⟩, ⟨1, 1, false⟩, ⟨2, 1, false⟩], some [.int .i64, .int .i64, .int .i64]⟩),
  (68, ⟨1, 8, false, [.v .nilf], .other, none⟩),
  (69, ⟨1, 8, false, [.v .nilf], .other, none⟩),
  (70, ⟨1, 8, false, [.v .nilf], .other, none⟩),
  (71, ⟨1, 8, false, [.v .nilf], .other, none⟩),
  (72, ⟨1, 8, false, [.v .nilf], .other, none⟩),
  (73, ⟨1, 24, false, [.nils 148], .slice 148, none⟩),
  (74, ⟨1, 8, false, [.v .nilf], .other, none⟩),
  (75, ⟨1, 8, false, [.v .nilf], .other, none⟩),
  (76, ⟨1, 8, false, [.v .nilf], .other, none⟩),
  (77, ⟨1, 8, false, [.v .nilf], .other, none⟩),
  (79, ⟨1, 8, false, [.v .nilf], .other, none⟩),
  (80, ⟨5, 48, true, [.v (.int .i64 0), .v (.int .i64 0), .v (.int .i64 0), .v (.int .i64 0), .v (.str ⟨#[]⟩)], .struct [⟨0, 1, false⟩, ⟨1, 1, false⟩, ⟨2, 1, false⟩, ⟨3, 1, false⟩, ⟨4, 1, false⟩], some [.int .i64, .int .i64, .int .i64, .int .i64, .str]⟩),
  (81, ⟨5, 48, true, [.v (.int .i64 0), .v (.int .i64 0), .v (.int .i64 0), .v (.int .i64 0), .v (.str ⟨#[]⟩)], .struct [⟨0, 1, false⟩, ⟨1, 1, false⟩, ⟨2, 1, false⟩, ⟨3, 1, false⟩, ⟨4, 1, false⟩], some [.int .i64, .int .i64, .int .i64, .int .i64, .str]⟩),
  (82, ⟨1, 8, false, [.v .nilf], .other, none⟩),
  (83, ⟨1, 8, false, [.v .nilf], .other, none⟩),
  (84, ⟨1, 8, false, [.v .nilf], .other, none⟩),
  (85, ⟨1, 8, false, [.v .nilf], .other, none⟩),
  (86, ⟨1, 24, false, [.nils 89], .slice 89, none⟩),
  (87, ⟨1, 8, false, [.v (.int .u64 0)], .int .u64, none⟩),
  (88, ⟨4, 32, true, [.v (.int .i64 0), .v (.int .i64 0), .v (.int .i64 0), .v (.bool false)], .struct [⟨0, 1, false⟩, ⟨1, 1, false⟩, ⟨2, 1, false⟩, ⟨3, 1, false⟩], some [.int .i64, .int .i64, .int .i64, .bool]⟩),
  (89, ⟨4, 32, true, [.v (.int .i64 0), .v (.int .i64 0), .v (.int .i64 0), .v (.bool false)], .struct [⟨0, 1, false⟩, ⟨1, 1, false⟩, ⟨2, 1, false⟩, ⟨3, 1, false⟩], some [.int .i64, .int .i64, .int .i64, .bool]⟩),
  (90, ⟨4, 56, true, [.v (.int .i64 0), .v (.int .i64 0), .v (.str ⟨#[]⟩), .nils 2], .struct [⟨0, 1, false⟩, ⟨1, 1, false⟩, ⟨2, 1, false⟩, ⟨3, 1, false⟩], none⟩),
  (91, ⟨4, 56, true, [.v (.int .i64 0), .v (.int .i64 0), .v (.str ⟨#[]⟩), .nils 2], .struct [⟨0, 1, false⟩, ⟨1, 1, false⟩, ⟨2, 1, false⟩, ⟨3, 1, false⟩], none⟩),
  (92, ⟨1, 8, false, [.v .nilf], .other, none⟩),
  (94, ⟨1, 8, false, [.v .nilf], .other, none⟩),
  (95, ⟨1, 8, false, [.v .nilf], .other, none⟩),
  (96, ⟨1, 8, false, [.v .nilf], .other, none⟩),
  (97, ⟨1, 8, false, [.v .nilf], .other, none⟩),
  (99, ⟨1, 8, false, [.v .nilf], .other, none⟩),
  (100, ⟨1, 8, false, [.v .nilf], .other, none⟩),
  (101, ⟨1, 8, false, [.v .nilf], .other, none⟩),
  (102, ⟨1, 8, false, [.v .nilf], .other, none⟩),
  (103, ⟨2, 16, true, [.v (.int .i64 0), .v (.int .i64 0)], .array 2 2, none⟩),
  (104, ⟨9, 72, true, [.v (.int .i64 0), .v (.int .i64 0), .v (.int .i64 0), .v (.int .i64 0), .v (.int .i64 0), .v (.bool false), .v (.int .i64 0), .v (.int .i64 0), .v (.int .i64 0)], .struct [⟨0, 1, false⟩, ⟨1, 1, false⟩, ⟨2, 1, false⟩, ⟨3, 1, false⟩, ⟨4, 1, false⟩, ⟨5, 1, false⟩, ⟨6, 2, true⟩, ⟨8, 1, false⟩], none⟩),
  (105, ⟨9, 72, true, [.v (.int .i64 0), .v (.int .i64 0), .v (.int .i64 0), .v (.int .i64 0), .v (.int .i64 0), .v (.bool false), .v (.int .i64 0), .v (.int .i64 0), .v (.int .i64 0)], .struct [⟨0, 1, false⟩, ⟨1, 1, false⟩, ⟨2, 1, false⟩, ⟨3, 1, false⟩, ⟨4, 1, false⟩, ⟨5, 1, false⟩, ⟨6, 2, true⟩, ⟨8, 1, false⟩], none⟩),
  (106, ⟨1, 8, false, [.v .nilf], .other, none⟩),
  (107, ⟨1, 8, false, [.v .nilf], .other, none⟩),
  (108, ⟨1, 8, false, [.v .nilf], .other, none⟩),
  (109, ⟨1, 8, false, [.v .nilf], .other, none⟩),
  (111, ⟨1, 8, false, [.v .nilf], .other, none⟩),
  (112, ⟨1, 8, false, [.v .nilf], .other, none⟩),
  (113, ⟨1, 24, false, [.nils 103], .slice 103, none⟩),
  (115, ⟨1, 8, false, [.v .nilf], .other, none⟩),
  (116, ⟨1, 8, false, [.v .nilf], .other, none⟩),
  (117, ⟨3, 40, true, [.v (.str ⟨#[]⟩), .v (.int .i64 0), .v (.str ⟨#[]⟩)], .struct [⟨0, 1, false⟩, ⟨1, 1, false⟩, ⟨2, 1, false⟩], some [.str, .int .i64, .str]⟩),
  (118, ⟨1, 8, false, [.v .nilf], .other, none⟩),
  (119, ⟨1, 8, false, [.v .nilf], .other, none⟩),
  (120, ⟨1, 8, false, [.v .nilf], .other, none⟩),
  (121, ⟨1, 8, false, [.v .nilf], .other, none⟩),
  (122, ⟨1, 8, false, [.v .nilf], .other, none⟩),
  (123, ⟨1, 8, false, [.v .nilf], .other, none⟩),
  (124, ⟨1, 8, false, [.v .nilf], .other, none⟩),
  (125, ⟨1, 8, false, [.v .nilf], .other, none⟩),
  (126, ⟨1, 8, false, [.v .nilf], .other, none⟩),
  (127, ⟨1, 8, false, [.v .nilf], .other, none⟩),
  (129, ⟨1, 8, false, [.v .nilf], .other, none⟩),
  (130, ⟨1, 8, false, [.v .nilf], .other, none⟩),
  (131, ⟨1, 8, false, [.v .nilp], .other, none⟩),
  (132, ⟨1, 8, false, [.v .nilf], .other, none⟩),
  (133, ⟨1, 8, false, [.v .nilf], .other, none⟩),
  (134, ⟨1, 8, false, [.v .nilf], .other, none⟩),
  (135, ⟨1, 8, false, [.v .nilf], .other, none⟩),
  (136, ⟨1, 8, false, [.v .nilf], .other, none⟩),
  (137, ⟨1, 8, false, [.v .nilf], .other, none⟩),
  (138, ⟨1, 8, false, [.v .nilf], .other, none⟩),
  (139, ⟨1, 8, false, [.v .nilf], .other, none⟩),
  (140, ⟨1, 8, false, [.v .nilf], .other, none⟩),
  (141, ⟨1, 8, false, [.v .nilf], .other, none⟩),
  (142, ⟨1, 8, false, [.v .nilf], .other, none⟩),
  (143, ⟨1, 8, false, [.v .nilp], .other, none⟩),
  (144, ⟨3, 32, true, [.v (.str ⟨#[]⟩), .v (.int .i64 0), .v (.bool false)], .struct [⟨0, 1, false⟩, ⟨1, 1, false⟩, ⟨2, 1, false⟩], some [.str, .int .i64, .bool]⟩),
  (145, ⟨3, 32, true, [.v (.str ⟨#[]⟩), .v (.int .i64 0), .v (.bool false)], .struct [⟨0, 1, false⟩, ⟨1, 1, false⟩, ⟨2, 1, false⟩], some [.str, .int .i64, .bool]⟩),
  (146, ⟨1, 8, false, [.v .nilf], .other, none⟩),
  (147, ⟨4, 32, true, [.v (.int .i64 0), .v (.int .i64 0), .v (.int .i64 0), .v (.int .i64 0)], .struct [⟨0, 1, false⟩, ⟨1, 1, false⟩, ⟨2, 1, false⟩, ⟨3, 1, false⟩], some [.int .i64, .int .i64, .int .i64, .int .i64]⟩),
  (148, ⟨4, 32, true, [.v (.int .i64 0), .v (.int .i64 0), .v (.int .i64 0), .v (.int .i64 0)], .struct [⟨0, 1, false⟩, ⟨1, 1, false⟩, ⟨2, 1, false⟩, ⟨3, 1, false⟩], some [.int .i64, .int .i64, .int .i64, .int .i64]⟩),
  (149, ⟨1, 8, false, [.v .nilf], .other, none⟩),
  (150, ⟨1, 8, false, [.v .nilf], .other, none⟩),
  (151, ⟨1, 8, false, [.v .nilf], .other, none⟩),
  (152, ⟨1, 8, false, [.v .nilf], .other, none⟩),
  (153, ⟨1, 8, false, [.v .nilf], .other, none⟩),
  (154, ⟨1, 8, false, [.v .nilp], .other, none⟩),
  (155, ⟨4, 40, true, [.v (.str ⟨#[]⟩), .v (.int .i64 0), .v (.int .i64 0), .v (.int .i64 0)], .struct [⟨0, 1, false⟩, ⟨1, 1, false⟩, ⟨2, 1, false⟩, ⟨3, 1, false⟩], some [.str, .int .i64, .int .i64, .int .i64]⟩),
  (156, ⟨4, 40, true, [.v (.str ⟨#[]⟩), .v (.int .i64 0), .v (.int .i64 0), .v (.int .i64 0)], .struct [⟨0, 1, false⟩, ⟨1, 1, false⟩, ⟨2, 1, false⟩, ⟨3, 1, false⟩], some [.str, .int .i64, .int .i64, .int .i64]⟩),
  (157, ⟨1, 8, false, [.v .nilf], .other, none⟩),
  (158, ⟨1, 8, false, [.v .nilf], .other, none⟩),
  (159, ⟨1, 8, false, [.v .nilf], .other, none⟩),
  (160, ⟨1, 8, false, [.v .nilf], .other, none⟩),
  (161, ⟨1, 8, false, [.v .nilf], .other, none⟩),
  (163, ⟨1, 8, false, [.v .nilf], .other, none⟩),
  (164, ⟨1, 8, false, [.v .nilf], .other, none⟩),
  (166, ⟨1, 8, false, [.v .nilf], .other, none⟩),
  (167, ⟨2, 16, true, [.v (.bool false), .v (.int .i64 0)], .struct [⟨0, 1, false⟩, ⟨1, 1, false⟩], some [.bool, .int .i64]⟩),
  (168, ⟨2, 16, true, [.v (.bool false), .v (.int .i64 0)], .struct [⟨0, 1, false⟩, ⟨1, 1, false⟩], some [.bool, .int .i64]⟩),
  (169, ⟨1, 8, false, [.v .nilf], .other, none⟩),
  (170, ⟨1, 8, false, [.v .nilf], .other, none⟩),
  (171, ⟨1, 8, false, [.v .nilf], .other, none⟩),
  (172, ⟨1, 8, false, [.v .nilf], .other, none⟩),
  (173, ⟨1, 8, false, [.v .nilp], .other, none⟩),
  (174, ⟨1, 24, false, [.nils 9], .slice 9, none⟩),
  (175, ⟨1, 8, false, [.v .nilf], .other, none⟩),
  (176, ⟨1, 8, false, [.v .nilf], .other, none⟩),
  (177, ⟨1, 8, false, [.v .nilf], .other, none⟩),
  (178, ⟨1, 8, false, [.v (.int .u64 0)], .int .u64, none⟩),
  (179, ⟨4, 48, true, [.nils 5, .v (.int .i64 0), .v (.int .u64 0), .v (.int .i64 0)], .struct [⟨0, 1, false⟩, ⟨1, 1, false⟩, ⟨2, 1, false⟩, ⟨3, 1, false⟩], none⟩),
  (180, ⟨4, 48, true, [.nils 5, .v (.int .i64 0), .v (.int .u64 0), .v (.int .i64 0)], .struct [⟨0, 1, false⟩, ⟨1, 1, false⟩, ⟨2, 1, false⟩, ⟨3, 1, false⟩], none⟩),
  (181, ⟨1, 4, false, [.v (.int .u32 0)], .int .u32, none⟩),
  (182, ⟨1, 8, false, [.v .nilf], .other, none⟩),
  (183, ⟨1, 8, false, [.v .nilp], .other, none⟩),
  (184, ⟨2, 32, true, [.v .nilp, .nils 5], .struct [⟨0, 1, false⟩, ⟨1, 1, false⟩], none⟩),
  (185, ⟨2, 32, true, [.v .nilp, .nils 5], .struct [⟨0, 1, false⟩, ⟨1, 1, false⟩], none⟩),
  (189, ⟨1, 8, false, [.v .nilf], .other, none⟩),
  (190, ⟨1, 8, false, [.v .nilf], .other, none⟩),
  (191, ⟨1, 8, false, [.v .nilf], .other, none⟩),
  (192, ⟨1, 8, false, [.v .nilf], .other, none⟩),
  (193, ⟨1, 8, false, [.v .nilf], .other, none⟩),
  (194, ⟨1, 8, false, [.v .nilp], .other, none⟩),
  (195, ⟨1, 8, false, [.v .nilf], .other, none⟩),
  (197, ⟨1, 8, false, [.v .nilf], .other, none⟩),
  (198, ⟨1, 8, false, [.v .nilf], .other, none⟩),
  (200, ⟨1, 8, false, [.v .nilf], .other, none⟩),
  (202, ⟨1, 8, false, [.v .nilf], .other, none⟩),
  (204, ⟨1, 8, false, [.v .nilf], .other, none⟩),
  (205, ⟨1, 8, false, [.v .nilf], .other, none⟩),
  (206, ⟨4, 40, true, [.v .nilp, .v .nilp, .v .nilp, .v (.str ⟨#[]⟩)], .struct [⟨0, 1, false⟩, ⟨1, 1, false⟩, ⟨2, 1, false⟩, ⟨3, 1, false⟩], none⟩),
  (207, ⟨4, 40, true, [.v .nilp, .v .nilp, .v .nilp, .v (.str ⟨#[]⟩)], .struct [⟨0, 1, false⟩, ⟨1, 1, false⟩, ⟨2, 1, false⟩, ⟨3, 1, false⟩], none⟩),
  (208, ⟨0, 0, true, [], .array 0 16, none⟩),
  (209, ⟨0, 0, true, [], .struct [⟨0, 0, true⟩], none⟩),
  (210, ⟨0, 0, true, [], .struct [⟨0, 0, true⟩], none⟩),
  (211, ⟨1, 1, false, [.v (.int .u8 0)], .int .u8, none⟩),
  (212, ⟨1, 1, false, [.v (.int .u8 0)], .int .u8, none⟩),
  (213, ⟨1, 8, false, [.v .nilf], .other, none⟩),
  (214, ⟨1, 4, false, [.v (.int .i32 0)], .int .i32, none⟩),
  (215, ⟨1, 4, false, [.v (.int .i32 0)], .int .i32, none⟩),
  (216, ⟨11, 48, true, [.v (.int .u64 0), .v (.int .u64 0), .v (.int .u32 0), .v (.int .u8 0), .v (.int .u8 0), .v (.int .u8 0), .v (.int .u8 0), .v .nilf, .v .nilp, .v (.int .i32 0), .v (.int .i32 0)], .struct [⟨0, 1, false⟩, ⟨1, 1, false⟩, ⟨2, 1, false⟩, ⟨3, 1, false⟩, ⟨4, 1, false⟩, ⟨5, 1, false⟩, ⟨6, 1, false⟩, ⟨7, 1, false⟩, ⟨8, 1, false⟩, ⟨9, 1, false⟩, ⟨10, 1, false⟩], none⟩),
  (217, ⟨11, 48, true, [.v (.int .u64 0), .v (.int .u64 0), .v (.int .u32 0), .v (.int .u8 0), .v (.int .u8 0), .v (.int .u8 0), .v (.int .u8 0), .v .nilf, .v .nilp, .v (.int .i32 0), .v (.int .i32 0)], .struct [⟨0, 1, false⟩, ⟨1, 1, false⟩, ⟨2, 1, false⟩, ⟨3, 1, false⟩, ⟨4, 1, false⟩, ⟨5, 1, false⟩, ⟨6, 1, false⟩, ⟨7, 1, false⟩, ⟨8, 1, false⟩, ⟨9, 1, false⟩, ⟨10, 1, false⟩], none⟩)]
theorem tab_ok : tab.all (fun x => tyIs Try.prog x.1 x.2) = true := by kernel_rfl

structure FirmTable where
  fName : ByteArray
  fRev : Int
  fBody : ByteArray
deriving DecidableEq
def tiFirmTable : RT FirmTable where
  elt := 62
  sz := 3
  cells := fun x => [.str x.fName, .int .i64 x.fRev, .str x.fBody]
  ofK := fun l K => match l with
    | [.str a0, .int .i64 a1, .str a2] => K ⟨a0, a1, a2⟩
    | _ => none
theorem tiFirmTable_ok (P : Program) (h : ∃ inf, P.info? 62 = some inf ∧ inf.size = 3) : RTOk P tiFirmTable where
  len := fun _ => rfl
  plain := fun x s hs => by
    simp only [tiFirmTable, List.mem_cons, List.not_mem_nil, or_false] at hs
    rcases hs with rfl | rfl | rfl <;> rfl
  of := fun l K r e => by
    simp only [tiFirmTable] at e ⊢
    split at e
    · exact ⟨_, e, rfl⟩
    · cases e
  info := let ⟨inf, h1, h2⟩ := h; ⟨inf, h1, h2, by decide⟩
structure Device where
  fKind : Int
  fPort : Int
  fLine : Int
deriving DecidableEq
def tiDevice : RT Device where
  elt := 67
  sz := 3
  cells := fun x => [.int .i64 x.fKind, .int .i64 x.fPort, .int .i64 x.fLine]
  ofK := fun l K => match l with
    | [.int .i64 a0, .int .i64 a1, .int .i64 a2] => K ⟨a0, a1, a2⟩
    | _ => none
theorem tiDevice_ok (P : Program) (h : ∃ inf, P.info? 67 = some inf ∧ inf.size = 3) : RTOk P tiDevice where
  len := fun _ => rfl
  plain := fun x s hs => by
    simp only [tiDevice, List.mem_cons, List.not_mem_nil, or_false] at hs
    rcases hs with rfl | rfl | rfl <;> rfl
  of := fun l K r e => by
    simp only [tiDevice] at e ⊢
    split at e
    · exact ⟨_, e, rfl⟩
    · cases e
  info := let ⟨inf, h1, h2⟩ := h; ⟨inf, h1, h2, by decide⟩
structure PageMap where
  fVa : Int
  fFrame : Int
  fFlags : Int
  fLarge : Bool
deriving DecidableEq
def tiPageMap : RT PageMap where
  elt := 89
  sz := 4
  cells := fun x => [.int .i64 x.fVa, .int .i64 x.fFrame, .int .i64 x.fFlags, .bool x.fLarge]
  ofK := fun l K => match l with
    | [.int .i64 a0, .int .i64 a1, .int .i64 a2, .bool a3] => K ⟨a0, a1, a2, a3⟩
    | _ => none
theorem tiPageMap_ok (P : Program) (h : ∃ inf, P.info? 89 = some inf ∧ inf.size = 4) : RTOk P tiPageMap where
  len := fun _ => rfl
  plain := fun x s hs => by
    simp only [tiPageMap, List.mem_cons, List.not_mem_nil, or_false] at hs
    rcases hs with rfl | rfl | rfl | rfl <;> rfl
  of := fun l K r e => by
    simp only [tiPageMap] at e ⊢
    split at e
    · exact ⟨_, e, rfl⟩
    · cases e
  info := let ⟨inf, h1, h2⟩ := h; ⟨inf, h1, h2, by decide⟩
structure A2i64 where
  f0 : Int
  f1 : Int
deriving DecidableEq
def taA2i64 : RT A2i64 where
  elt := 103
  sz := 2
  cells := fun x => [.int .i64 x.f0, .int .i64 x.f1]
  ofK := fun l K => match l with
    | [.int .i64 a0, .int .i64 a1] => K ⟨a0, a1⟩
    | _ => none
theorem taA2i64_ok (P : Program) (h : ∃ inf, P.info? 103 = some inf ∧ inf.size = 2) : RTOk P taA2i64 where
  len := fun _ => rfl
  plain := fun x s hs => by
    simp only [taA2i64, List.mem_cons, List.not_mem_nil, or_false] at hs
    rcases hs with rfl | rfl <;> rfl
  of := fun l K r e => by
    simp only [taA2i64] at e ⊢
    split at e
    · exact ⟨_, e, rfl⟩
    · cases e
  info := let ⟨inf, h1, h2⟩ := h; ⟨inf, h1, h2, by decide⟩
def tlFirmTable : RT FirmTable where
  elt := 117
  sz := 3
  cells := fun x => [.str x.fName, .int .i64 x.fRev, .str x.fBody]
  ofK := fun l K => match l with
    | [.str a0, .int .i64 a1, .str a2] => K ⟨a0, a1, a2⟩
    | _ => none
theorem tlFirmTable_ok (P : Program) (h : ∃ inf, P.info? 117 = some inf ∧ inf.size = 3) : RTOk P tlFirmTable where
  len := fun _ => rfl
  plain := fun x s hs => by
    simp only [tlFirmTable, List.mem_cons, List.not_mem_nil, or_false] at hs
    rcases hs with rfl | rfl | rfl <;> rfl
  of := fun l K r e => by
    simp only [tlFirmTable] at e ⊢
    split at e
    · exact ⟨_, e, rfl⟩
    · cases e
  info := let ⟨inf, h1, h2⟩ := h; ⟨inf, h1, h2, by decide⟩
structure Event where
  fAt : Int
  fKind : Int
  fNum : Int
  fValue : Int
deriving DecidableEq
def tiEvent : RT Event where
  elt := 148
  sz := 4
  cells := fun x => [.int .i64 x.fAt, .int .i64 x.fKind, .int .i64 x.fNum, .int .i64 x.fValue]
  ofK := fun l K => match l with
    | [.int .i64 a0, .int .i64 a1, .int .i64 a2, .int .i64 a3] => K ⟨a0, a1, a2, a3⟩
    | _ => none
theorem tiEvent_ok (P : Program) (h : ∃ inf, P.info? 148 = some inf ∧ inf.size = 4) : RTOk P tiEvent where
  len := fun _ => rfl
  plain := fun x s hs => by
    simp only [tiEvent, List.mem_cons, List.not_mem_nil, or_false] at hs
    rcases hs with rfl | rfl | rfl | rfl <;> rfl
  of := fun l K r e => by
    simp only [tiEvent] at e ⊢
    split at e
    · exact ⟨_, e, rfl⟩
    · cases e
  info := let ⟨inf, h1, h2⟩ := h; ⟨inf, h1, h2, by decide⟩
inductive B where
  | i64 (l : List Int)
  | u8 (l : List Int)
  | str (l : List ByteArray)
  | iFirmTable (l : List FirmTable)
  | iDevice (l : List Device)
  | iPageMap (l : List PageMap)
  | aA2i64 (l : List A2i64)
  | lFirmTable (l : List FirmTable)
  | iEvent (l : List Event)

abbrev ri64 : RT Int := rtInt 2 .i64
abbrev ru8 : RT Int := rtInt 5 .u8
abbrev rstr : RT ByteArray := rtStr 9
abbrev riFirmTable : RT FirmTable := tiFirmTable
abbrev riDevice : RT Device := tiDevice
abbrev riPageMap : RT PageMap := tiPageMap
abbrev raA2i64 : RT A2i64 := taA2i64
abbrev rlFirmTable : RT FirmTable := tlFirmTable
abbrev riEvent : RT Event := tiEvent
def B.elt : B → TypeId
  | .i64 _ => 2
  | .u8 _ => 5
  | .str _ => 9
  | .iFirmTable _ => 62
  | .iDevice _ => 67
  | .iPageMap _ => 89
  | .aA2i64 _ => 103
  | .lFirmTable _ => 117
  | .iEvent _ => 148
def B.sz : B → Nat
  | .i64 _ => 1
  | .u8 _ => 1
  | .str _ => 1
  | .iFirmTable _ => 3
  | .iDevice _ => 3
  | .iPageMap _ => 4
  | .aA2i64 _ => 2
  | .lFirmTable _ => 3
  | .iEvent _ => 4
def B.cells : B → List SV
  | .i64 l => rtCells ri64 l
  | .u8 l => rtCells ru8 l
  | .str l => rtCells rstr l
  | .iFirmTable l => rtCells riFirmTable l
  | .iDevice l => rtCells riDevice l
  | .iPageMap l => rtCells riPageMap l
  | .aA2i64 l => rtCells raA2i64 l
  | .lFirmTable l => rtCells rlFirmTable l
  | .iEvent l => rtCells riEvent l
def B.len : B → Nat
  | .i64 l => l.length
  | .u8 l => l.length
  | .str l => l.length
  | .iFirmTable l => l.length
  | .iDevice l => l.length
  | .iPageMap l => l.length
  | .aA2i64 l => l.length
  | .lFirmTable l => l.length
  | .iEvent l => l.length
section
variable {α : Type}
def B.rowK : B → Nat → (List SV → Option α) → Option α
  | .i64 l, n, K => rtRow ri64 l n K
  | .u8 l, n, K => rtRow ru8 l n K
  | .str l, n, K => rtRow rstr l n K
  | .iFirmTable l, n, K => rtRow riFirmTable l n K
  | .iDevice l, n, K => rtRow riDevice l n K
  | .iPageMap l, n, K => rtRow riPageMap l n K
  | .aA2i64 l, n, K => rtRow raA2i64 l n K
  | .lFirmTable l, n, K => rtRow rlFirmTable l n K
  | .iEvent l, n, K => rtRow riEvent l n K
def B.setK : B → Nat → List SV → (B → Option α) → Option α
  | .i64 l, n, v, K => rtSet ri64 l n v fun l => K (.i64 l)
  | .u8 l, n, v, K => rtSet ru8 l n v fun l => K (.u8 l)
  | .str l, n, v, K => rtSet rstr l n v fun l => K (.str l)
  | .iFirmTable l, n, v, K => rtSet riFirmTable l n v fun l => K (.iFirmTable l)
  | .iDevice l, n, v, K => rtSet riDevice l n v fun l => K (.iDevice l)
  | .iPageMap l, n, v, K => rtSet riPageMap l n v fun l => K (.iPageMap l)
  | .aA2i64 l, n, v, K => rtSet raA2i64 l n v fun l => K (.aA2i64 l)
  | .lFirmTable l, n, v, K => rtSet rlFirmTable l n v fun l => K (.lFirmTable l)
  | .iEvent l, n, v, K => rtSet riEvent l n v fun l => K (.iEvent l)
def B.appK : B → B → (B → Option α) → Option α
  | .i64 a, .i64 b, K => K (.i64 (a ++ b))
  | .u8 a, .u8 b, K => K (.u8 (a ++ b))
  | .str a, .str b, K => K (.str (a ++ b))
  | .iFirmTable a, .iFirmTable b, K => K (.iFirmTable (a ++ b))
  | .iDevice a, .iDevice b, K => K (.iDevice (a ++ b))
  | .iPageMap a, .iPageMap b, K => K (.iPageMap (a ++ b))
  | .aA2i64 a, .aA2i64 b, K => K (.aA2i64 (a ++ b))
  | .lFirmTable a, .lFirmTable b, K => K (.lFirmTable (a ++ b))
  | .iEvent a, .iEvent b, K => K (.iEvent (a ++ b))
  | _, _, _ => none
def B.mkK (t : TypeId) (ls : List (List SV)) (K : B → Option α) : Option α := cond (Nat.beq t 2) (rtMk ri64 ls fun l => K (.i64 l)) (cond (Nat.beq t 5) (rtMk ru8 ls fun l => K (.u8 l)) (cond (Nat.beq t 9) (rtMk rstr ls fun l => K (.str l)) (cond (Nat.beq t 62) (rtMk riFirmTable ls fun l => K (.iFirmTable l)) (cond (Nat.beq t 67) (rtMk riDevice ls fun l => K (.iDevice l)) (cond (Nat.beq t 89) (rtMk riPageMap ls fun l => K (.iPageMap l)) (cond (Nat.beq t 103) (rtMk raA2i64 ls fun l => K (.aA2i64 l)) (cond (Nat.beq t 117) (rtMk rlFirmTable ls fun l => K (.lFirmTable l)) (cond (Nat.beq t 148) (rtMk riEvent ls fun l => K (.iEvent l)) (none)))))))))
def B.zeroK (t : TypeId) (n : Nat) (K : B → Option α) : Option α := cond (Nat.beq t 2) (K (.i64 (List.replicate n 0))) (cond (Nat.beq t 5) (K (.u8 (List.replicate n 0))) (cond (Nat.beq t 9) (K (.str (List.replicate n ⟨#[]⟩))) (cond (Nat.beq t 62) (K (.iFirmTable (List.replicate n ⟨⟨#[]⟩, 0, ⟨#[]⟩⟩))) (cond (Nat.beq t 67) (K (.iDevice (List.replicate n ⟨0, 0, 0⟩))) (cond (Nat.beq t 89) (K (.iPageMap (List.replicate n ⟨0, 0, 0, false⟩))) (cond (Nat.beq t 103) (K (.aA2i64 (List.replicate n ⟨0, 0⟩))) (cond (Nat.beq t 117) (K (.lFirmTable (List.replicate n ⟨⟨#[]⟩, 0, ⟨#[]⟩⟩))) (cond (Nat.beq t 148) (K (.iEvent (List.replicate n ⟨0, 0, 0, 0⟩))) (none)))))))))
def B.subK : B → Nat → Nat → (B → Option α) → Option α
  | .i64 l, i, n, K => rtSub l i n fun l => K (.i64 l)
  | .u8 l, i, n, K => rtSub l i n fun l => K (.u8 l)
  | .str l, i, n, K => rtSub l i n fun l => K (.str l)
  | .iFirmTable l, i, n, K => rtSub l i n fun l => K (.iFirmTable l)
  | .iDevice l, i, n, K => rtSub l i n fun l => K (.iDevice l)
  | .iPageMap l, i, n, K => rtSub l i n fun l => K (.iPageMap l)
  | .aA2i64 l, i, n, K => rtSub l i n fun l => K (.aA2i64 l)
  | .lFirmTable l, i, n, K => rtSub l i n fun l => K (.lFirmTable l)
  | .iEvent l, i, n, K => rtSub l i n fun l => K (.iEvent l)
def B.ovK : B → Nat → B → (B → Option α) → Option α
  | .i64 a, i, .i64 b, K => rtOv a i b fun l => K (.i64 l)
  | .u8 a, i, .u8 b, K => rtOv a i b fun l => K (.u8 l)
  | .str a, i, .str b, K => rtOv a i b fun l => K (.str l)
  | .iFirmTable a, i, .iFirmTable b, K => rtOv a i b fun l => K (.iFirmTable l)
  | .iDevice a, i, .iDevice b, K => rtOv a i b fun l => K (.iDevice l)
  | .iPageMap a, i, .iPageMap b, K => rtOv a i b fun l => K (.iPageMap l)
  | .aA2i64 a, i, .aA2i64 b, K => rtOv a i b fun l => K (.aA2i64 l)
  | .lFirmTable a, i, .lFirmTable b, K => rtOv a i b fun l => K (.lFirmTable l)
  | .iEvent a, i, .iEvent b, K => rtOv a i b fun l => K (.iEvent l)
  | _, _, _, _ => none
def B.strK : B → Nat → Nat → (ByteArray → Option α) → Option α
  | .u8 l, i, n, K => cond (Nat.ble (i + n) l.length) (K (toBytes (seg l i n))) none
  | _, _, _, _ => none
def B.bytesK (t : TypeId) (s : ByteArray) (K : B → Option α) : Option α := cond (Nat.beq t 5) (K (.u8 (ofBytes s))) (none)
end
noncomputable def E : Env where
  P := Try.prog
  B := B
  elt := B.elt
  sz := B.sz
  cells := B.cells
  len := B.len
  rowK := B.rowK
  setK := B.setK
  appK := B.appK
  mkK := B.mkK
  zeroK := B.zeroK
  subK := B.subK
  strK := B.strK
  bytesK := B.bytesK
  ovK := B.ovK
  ty := fun t => tabLook t tab
  named := fun t => Nat.beq t 185
  wide := fun f => [6, 8, 11, 13, 14, 18, 28, 31, 32, 37, 39, 42, 52, 54, 60, 61, 72, 73, 90, 102, 103, 104, 111, 124, 129, 130, 131, 132, 134, 135, 136, 144, 146, 156, 162, 163, 165, 170, 175, 176, 179, 181].any (Nat.beq f)

theorem ri64_ok : RTOk Try.prog ri64 := rtInt_ok ⟨Try.t2, by kernel_rfl, by kernel_rfl⟩
theorem ru8_ok : RTOk Try.prog ru8 := rtInt_ok ⟨Try.t5, by kernel_rfl, by kernel_rfl⟩
theorem rstr_ok : RTOk Try.prog rstr := rtStr_ok ⟨Try.t9, by kernel_rfl, by kernel_rfl⟩
theorem riFirmTable_ok : RTOk Try.prog riFirmTable := tiFirmTable_ok _ ⟨Try.t62, by kernel_rfl, by kernel_rfl⟩
theorem riDevice_ok : RTOk Try.prog riDevice := tiDevice_ok _ ⟨Try.t67, by kernel_rfl, by kernel_rfl⟩
theorem riPageMap_ok : RTOk Try.prog riPageMap := tiPageMap_ok _ ⟨Try.t89, by kernel_rfl, by kernel_rfl⟩
theorem raA2i64_ok : RTOk Try.prog raA2i64 := taA2i64_ok _ ⟨Try.t103, by kernel_rfl, by kernel_rfl⟩
theorem rlFirmTable_ok : RTOk Try.prog rlFirmTable := tlFirmTable_ok _ ⟨Try.t117, by kernel_rfl, by kernel_rfl⟩
theorem riEvent_ok : RTOk Try.prog riEvent := tiEvent_ok _ ⟨Try.t148, by kernel_rfl, by kernel_rfl⟩
section
variable {α : Type}
theorem B.rowK_ok {b : B} {n : Nat} {K : List SV → Option α} {r : α} (h : b.rowK n K = some r) : ∃ l, K l = some r ∧ l.length = b.sz ∧ n < b.len ∧ l = seg b.cells (n * b.sz) b.sz := by
  cases b
  · exact rtRow_ok ri64_ok h
  · exact rtRow_ok ru8_ok h
  · exact rtRow_ok rstr_ok h
  · exact rtRow_ok riFirmTable_ok h
  · exact rtRow_ok riDevice_ok h
  · exact rtRow_ok riPageMap_ok h
  · exact rtRow_ok raA2i64_ok h
  · exact rtRow_ok rlFirmTable_ok h
  · exact rtRow_ok riEvent_ok h
theorem B.setK_ok {b : B} {n : Nat} {l : List SV} {K : B → Option α} {r : α} (h : b.setK n l K = some r) : ∃ b', K b' = some r ∧ b'.elt = b.elt ∧ b'.sz = b.sz ∧ b'.len = b.len ∧ l.length = b.sz ∧ n < b.len ∧ b'.cells = splice b.cells (n * b.sz) l := by
  cases b
  · unfold B.setK at h
    obtain ⟨ys, hK, h1, h2, h3, h4⟩ := rtSet_ok ri64_ok h
    exact ⟨.i64 ys, hK, rfl, rfl, h1, h2, h3, h4⟩
  · unfold B.setK at h
    obtain ⟨ys, hK, h1, h2, h3, h4⟩ := rtSet_ok ru8_ok h
    exact ⟨.u8 ys, hK, rfl, rfl, h1, h2, h3, h4⟩
  · unfold B.setK at h
    obtain ⟨ys, hK, h1, h2, h3, h4⟩ := rtSet_ok rstr_ok h
    exact ⟨.str ys, hK, rfl, rfl, h1, h2, h3, h4⟩
  · unfold B.setK at h
    obtain ⟨ys, hK, h1, h2, h3, h4⟩ := rtSet_ok riFirmTable_ok h
    exact ⟨.iFirmTable ys, hK, rfl, rfl, h1, h2, h3, h4⟩
  · unfold B.setK at h
    obtain ⟨ys, hK, h1, h2, h3, h4⟩ := rtSet_ok riDevice_ok h
    exact ⟨.iDevice ys, hK, rfl, rfl, h1, h2, h3, h4⟩
  · unfold B.setK at h
    obtain ⟨ys, hK, h1, h2, h3, h4⟩ := rtSet_ok riPageMap_ok h
    exact ⟨.iPageMap ys, hK, rfl, rfl, h1, h2, h3, h4⟩
  · unfold B.setK at h
    obtain ⟨ys, hK, h1, h2, h3, h4⟩ := rtSet_ok raA2i64_ok h
    exact ⟨.aA2i64 ys, hK, rfl, rfl, h1, h2, h3, h4⟩
  · unfold B.setK at h
    obtain ⟨ys, hK, h1, h2, h3, h4⟩ := rtSet_ok rlFirmTable_ok h
    exact ⟨.lFirmTable ys, hK, rfl, rfl, h1, h2, h3, h4⟩
  · unfold B.setK at h
    obtain ⟨ys, hK, h1, h2, h3, h4⟩ := rtSet_ok riEvent_ok h
    exact ⟨.iEvent ys, hK, rfl, rfl, h1, h2, h3, h4⟩
theorem B.appK_ok {a b : B} {K : B → Option α} {r : α} (h : a.appK b K = some r) : ∃ c, K c = some r ∧ c.elt = a.elt ∧ c.sz = a.sz ∧ b.sz = a.sz ∧ c.len = a.len + b.len ∧ c.cells = a.cells ++ b.cells := by
  cases a <;> cases b <;> first | (unfold B.appK at h; cases h; done) | exact ⟨_, h, rfl, rfl, rfl, List.length_append, rtCells_append _ _ _⟩
theorem B.mkK_ok {t : TypeId} {ls : List (List SV)} {K : B → Option α} {r : α} (h : B.mkK t ls K = some r) : ∃ b, K b = some r ∧ b.elt = t ∧ b.len = ls.length ∧ b.cells = ls.flatten ∧ ∀ l ∈ ls, l.length = b.sz := by
  unfold B.mkK at h
  rcases cond_some h with ⟨e0, h0⟩ | ⟨_, h0⟩
  · obtain ⟨xs, hK, h1, h2, h3⟩ := rtMk_ok ri64_ok h0
    exact ⟨_, hK, (Nat.eq_of_beq_eq_true e0).symm, h1, h2, h3⟩
  rcases cond_some h0 with ⟨e1, h1⟩ | ⟨_, h1⟩
  · obtain ⟨xs, hK, h1, h2, h3⟩ := rtMk_ok ru8_ok h1
    exact ⟨_, hK, (Nat.eq_of_beq_eq_true e1).symm, h1, h2, h3⟩
  rcases cond_some h1 with ⟨e2, h2⟩ | ⟨_, h2⟩
  · obtain ⟨xs, hK, h1, h2, h3⟩ := rtMk_ok rstr_ok h2
    exact ⟨_, hK, (Nat.eq_of_beq_eq_true e2).symm, h1, h2, h3⟩
  rcases cond_some h2 with ⟨e3, h3⟩ | ⟨_, h3⟩
  · obtain ⟨xs, hK, h1, h2, h3⟩ := rtMk_ok riFirmTable_ok h3
    exact ⟨_, hK, (Nat.eq_of_beq_eq_true e3).symm, h1, h2, h3⟩
  rcases cond_some h3 with ⟨e4, h4⟩ | ⟨_, h4⟩
  · obtain ⟨xs, hK, h1, h2, h3⟩ := rtMk_ok riDevice_ok h4
    exact ⟨_, hK, (Nat.eq_of_beq_eq_true e4).symm, h1, h2, h3⟩
  rcases cond_some h4 with ⟨e5, h5⟩ | ⟨_, h5⟩
  · obtain ⟨xs, hK, h1, h2, h3⟩ := rtMk_ok riPageMap_ok h5
    exact ⟨_, hK, (Nat.eq_of_beq_eq_true e5).symm, h1, h2, h3⟩
  rcases cond_some h5 with ⟨e6, h6⟩ | ⟨_, h6⟩
  · obtain ⟨xs, hK, h1, h2, h3⟩ := rtMk_ok raA2i64_ok h6
    exact ⟨_, hK, (Nat.eq_of_beq_eq_true e6).symm, h1, h2, h3⟩
  rcases cond_some h6 with ⟨e7, h7⟩ | ⟨_, h7⟩
  · obtain ⟨xs, hK, h1, h2, h3⟩ := rtMk_ok rlFirmTable_ok h7
    exact ⟨_, hK, (Nat.eq_of_beq_eq_true e7).symm, h1, h2, h3⟩
  rcases cond_some h7 with ⟨e8, h8⟩ | ⟨_, h8⟩
  · obtain ⟨xs, hK, h1, h2, h3⟩ := rtMk_ok riEvent_ok h8
    exact ⟨_, hK, (Nat.eq_of_beq_eq_true e8).symm, h1, h2, h3⟩
  cases h8
theorem B.zeroK_ok {t : TypeId} {n : Nat} {K : B → Option α} {r : α} (h : B.zeroK t n K = some r) : ∃ b, K b = some r ∧ b.elt = t ∧ b.len = n ∧ ∃ ti z, tabLook t tab = some ti ∧ ti.zero = z.map .v ∧ z.length = b.sz ∧ b.cells = (List.replicate n z).flatten := by
  unfold B.zeroK at h
  rcases cond_some h with ⟨e0, h0⟩ | ⟨_, h0⟩
  · have e := Nat.eq_of_beq_eq_true e0
    subst e
    exact ⟨_, h0, rfl, List.length_replicate, _, [.int .i64 0], rfl, rfl, rfl, rtCells_replicate _ _ _⟩
  rcases cond_some h0 with ⟨e1, h1⟩ | ⟨_, h1⟩
  · have e := Nat.eq_of_beq_eq_true e1
    subst e
    exact ⟨_, h1, rfl, List.length_replicate, _, [.int .u8 0], rfl, rfl, rfl, rtCells_replicate _ _ _⟩
  rcases cond_some h1 with ⟨e2, h2⟩ | ⟨_, h2⟩
  · have e := Nat.eq_of_beq_eq_true e2
    subst e
    exact ⟨_, h2, rfl, List.length_replicate, _, [.str ⟨#[]⟩], rfl, rfl, rfl, rtCells_replicate _ _ _⟩
  rcases cond_some h2 with ⟨e3, h3⟩ | ⟨_, h3⟩
  · have e := Nat.eq_of_beq_eq_true e3
    subst e
    exact ⟨_, h3, rfl, List.length_replicate, _, [.str ⟨#[]⟩, .int .i64 0, .str ⟨#[]⟩], rfl, rfl, rfl, rtCells_replicate _ _ _⟩
  rcases cond_some h3 with ⟨e4, h4⟩ | ⟨_, h4⟩
  · have e := Nat.eq_of_beq_eq_true e4
    subst e
    exact ⟨_, h4, rfl, List.length_replicate, _, [.int .i64 0, .int .i64 0, .int .i64 0], rfl, rfl, rfl, rtCells_replicate _ _ _⟩
  rcases cond_some h4 with ⟨e5, h5⟩ | ⟨_, h5⟩
  · have e := Nat.eq_of_beq_eq_true e5
    subst e
    exact ⟨_, h5, rfl, List.length_replicate, _, [.int .i64 0, .int .i64 0, .int .i64 0, .bool false], rfl, rfl, rfl, rtCells_replicate _ _ _⟩
  rcases cond_some h5 with ⟨e6, h6⟩ | ⟨_, h6⟩
  · have e := Nat.eq_of_beq_eq_true e6
    subst e
    exact ⟨_, h6, rfl, List.length_replicate, _, [.int .i64 0, .int .i64 0], rfl, rfl, rfl, rtCells_replicate _ _ _⟩
  rcases cond_some h6 with ⟨e7, h7⟩ | ⟨_, h7⟩
  · have e := Nat.eq_of_beq_eq_true e7
    subst e
    exact ⟨_, h7, rfl, List.length_replicate, _, [.str ⟨#[]⟩, .int .i64 0, .str ⟨#[]⟩], rfl, rfl, rfl, rtCells_replicate _ _ _⟩
  rcases cond_some h7 with ⟨e8, h8⟩ | ⟨_, h8⟩
  · have e := Nat.eq_of_beq_eq_true e8
    subst e
    exact ⟨_, h8, rfl, List.length_replicate, _, [.int .i64 0, .int .i64 0, .int .i64 0, .int .i64 0], rfl, rfl, rfl, rtCells_replicate _ _ _⟩
  cases h8
theorem B.subK_ok {b : B} {i n : Nat} {K : B → Option α} {r : α} (h : b.subK i n K = some r) : ∃ b', K b' = some r ∧ b'.elt = b.elt ∧ b'.sz = b.sz ∧ b'.len = n ∧ i + n ≤ b.len ∧ b'.cells = seg b.cells (i * b.sz) (n * b.sz) := by
  cases b
  · unfold B.subK at h
    obtain ⟨ys, hK, h1, h2, h3⟩ := rtSub_ok ri64_ok h
    exact ⟨.i64 ys, hK, rfl, rfl, h1, h2, h3⟩
  · unfold B.subK at h
    obtain ⟨ys, hK, h1, h2, h3⟩ := rtSub_ok ru8_ok h
    exact ⟨.u8 ys, hK, rfl, rfl, h1, h2, h3⟩
  · unfold B.subK at h
    obtain ⟨ys, hK, h1, h2, h3⟩ := rtSub_ok rstr_ok h
    exact ⟨.str ys, hK, rfl, rfl, h1, h2, h3⟩
  · unfold B.subK at h
    obtain ⟨ys, hK, h1, h2, h3⟩ := rtSub_ok riFirmTable_ok h
    exact ⟨.iFirmTable ys, hK, rfl, rfl, h1, h2, h3⟩
  · unfold B.subK at h
    obtain ⟨ys, hK, h1, h2, h3⟩ := rtSub_ok riDevice_ok h
    exact ⟨.iDevice ys, hK, rfl, rfl, h1, h2, h3⟩
  · unfold B.subK at h
    obtain ⟨ys, hK, h1, h2, h3⟩ := rtSub_ok riPageMap_ok h
    exact ⟨.iPageMap ys, hK, rfl, rfl, h1, h2, h3⟩
  · unfold B.subK at h
    obtain ⟨ys, hK, h1, h2, h3⟩ := rtSub_ok raA2i64_ok h
    exact ⟨.aA2i64 ys, hK, rfl, rfl, h1, h2, h3⟩
  · unfold B.subK at h
    obtain ⟨ys, hK, h1, h2, h3⟩ := rtSub_ok rlFirmTable_ok h
    exact ⟨.lFirmTable ys, hK, rfl, rfl, h1, h2, h3⟩
  · unfold B.subK at h
    obtain ⟨ys, hK, h1, h2, h3⟩ := rtSub_ok riEvent_ok h
    exact ⟨.iEvent ys, hK, rfl, rfl, h1, h2, h3⟩
theorem B.ovK_ok {a b : B} {i : Nat} {K : B → Option α} {r : α} (h : a.ovK i b K = some r) : ∃ a', K a' = some r ∧ a'.elt = a.elt ∧ a'.sz = a.sz ∧ a'.len = a.len ∧ b.sz = a.sz ∧ i + b.len ≤ a.len ∧ a'.cells = splice a.cells (i * a.sz) b.cells := by
  cases a <;> cases b <;> first | (unfold B.ovK at h; cases h; done) | skip
  · unfold B.ovK at h
    obtain ⟨ys, hK, h1, h2, h3⟩ := rtOv_ok ri64_ok h
    exact ⟨.i64 ys, hK, rfl, rfl, h1, rfl, h2, h3⟩
  · unfold B.ovK at h
    obtain ⟨ys, hK, h1, h2, h3⟩ := rtOv_ok ru8_ok h
    exact ⟨.u8 ys, hK, rfl, rfl, h1, rfl, h2, h3⟩
  · unfold B.ovK at h
    obtain ⟨ys, hK, h1, h2, h3⟩ := rtOv_ok rstr_ok h
    exact ⟨.str ys, hK, rfl, rfl, h1, rfl, h2, h3⟩
  · unfold B.ovK at h
    obtain ⟨ys, hK, h1, h2, h3⟩ := rtOv_ok riFirmTable_ok h
    exact ⟨.iFirmTable ys, hK, rfl, rfl, h1, rfl, h2, h3⟩
  · unfold B.ovK at h
    obtain ⟨ys, hK, h1, h2, h3⟩ := rtOv_ok riDevice_ok h
    exact ⟨.iDevice ys, hK, rfl, rfl, h1, rfl, h2, h3⟩
  · unfold B.ovK at h
    obtain ⟨ys, hK, h1, h2, h3⟩ := rtOv_ok riPageMap_ok h
    exact ⟨.iPageMap ys, hK, rfl, rfl, h1, rfl, h2, h3⟩
  · unfold B.ovK at h
    obtain ⟨ys, hK, h1, h2, h3⟩ := rtOv_ok raA2i64_ok h
    exact ⟨.aA2i64 ys, hK, rfl, rfl, h1, rfl, h2, h3⟩
  · unfold B.ovK at h
    obtain ⟨ys, hK, h1, h2, h3⟩ := rtOv_ok rlFirmTable_ok h
    exact ⟨.lFirmTable ys, hK, rfl, rfl, h1, rfl, h2, h3⟩
  · unfold B.ovK at h
    obtain ⟨ys, hK, h1, h2, h3⟩ := rtOv_ok riEvent_ok h
    exact ⟨.iEvent ys, hK, rfl, rfl, h1, rfl, h2, h3⟩
theorem B.strK_ok {b : B} {i n : Nat} {K : ByteArray → Option α} {r : α} (h : b.strK i n K = some r) : ∃ ns : List Int, K ⟨(ns.map fun x => UInt8.ofNat x.toNat).toArray⟩ = some r ∧ b.sz = 1 ∧ i + n ≤ b.len ∧ ns.length = n ∧ seg b.cells i n = ns.map (.int .u8 ·) := by
  cases b
  · cases h
  · unfold B.strK at h
    obtain ⟨hn, hK⟩ := cond_none_right h
    have hn := Nat.le_of_ble_eq_true hn
    refine ⟨seg _ i n, hK, rfl, hn, seg_length _ _ _ hn, ?_⟩
    have h1 := rtCells_seg ru8_ok ‹_› i n
    simp only [rtInt, Nat.mul_one] at h1
    exact h1.symm.trans (rtInt_map _ _ _)
  · cases h
  · cases h
  · cases h
  · cases h
  · cases h
  · cases h
  · cases h
theorem B.bytesK_ok {t : TypeId} {s : ByteArray} {K : B → Option α} {r : α} (h : B.bytesK t s K = some r) : ∃ b, K b = some r ∧ b.elt = t ∧ b.sz = 1 ∧ b.len = s.size ∧ b.cells = s.data.toList.map fun c => .int .u8 (c.toNat : Int) := by
  unfold B.bytesK at h
  rcases cond_some h with ⟨e0, h0⟩ | ⟨_, h0⟩
  · refine ⟨_, h0, (Nat.eq_of_beq_eq_true e0).symm, rfl, (List.length_map _).trans Array.length_toList, (rtInt_map _ _ _).trans ?_⟩
    unfold ofBytes
    rw [List.map_map]
    rfl
  cases h0
end
theorem B.cells_len (b : B) : b.cells.length = b.len * b.sz := by
  cases b
  · exact rtCells_length ri64_ok _
  · exact rtCells_length ru8_ok _
  · exact rtCells_length rstr_ok _
  · exact rtCells_length riFirmTable_ok _
  · exact rtCells_length riDevice_ok _
  · exact rtCells_length riPageMap_ok _
  · exact rtCells_length raA2i64_ok _
  · exact rtCells_length rlFirmTable_ok _
  · exact rtCells_length riEvent_ok _
theorem B.plain (b : B) : ∀ s ∈ b.cells, s.plain = true := by
  cases b
  · exact rtCells_plain ri64_ok _
  · exact rtCells_plain ru8_ok _
  · exact rtCells_plain rstr_ok _
  · exact rtCells_plain riFirmTable_ok _
  · exact rtCells_plain riDevice_ok _
  · exact rtCells_plain riPageMap_ok _
  · exact rtCells_plain raA2i64_ok _
  · exact rtCells_plain rlFirmTable_ok _
  · exact rtCells_plain riEvent_ok _
theorem B.info (b : B) : ∃ inf, E.P.info? b.elt = some inf ∧ inf.size = b.sz ∧ 0 < b.sz := by
  cases b
  · exact ri64_ok.info
  · exact ru8_ok.info
  · exact rstr_ok.info
  · exact riFirmTable_ok.info
  · exact riDevice_ok.info
  · exact riPageMap_ok.info
  · exact raA2i64_ok.info
  · exact rlFirmTable_ok.info
  · exact riEvent_ok.info
theorem wi64 : RowOf ri64 [.int .i64] := fun row h => by
  obtain ⟨a0, _, rfl, w0, h0⟩ := ck_int h
  obtain rfl := ck_nil h0
  refine ⟨a0, ⟨rfl, trivial⟩, fun s hs => ?_⟩
  have hs : s ∈ [SV.int .i64 a0] := hs
  simp only [List.mem_cons, List.not_mem_nil, or_false] at hs
  subst hs
  · exact w0
theorem wu8 : RowOf ru8 [.int .u8] := fun row h => by
  obtain ⟨a0, _, rfl, w0, h0⟩ := ck_int h
  obtain rfl := ck_nil h0
  refine ⟨a0, ⟨rfl, trivial⟩, fun s hs => ?_⟩
  have hs : s ∈ [SV.int .u8 a0] := hs
  simp only [List.mem_cons, List.not_mem_nil, or_false] at hs
  subst hs
  · exact w0
theorem wstr : RowOf rstr [.str] := fun row h => by
  obtain ⟨a0, _, rfl, w0, h0⟩ := ck_str h
  obtain rfl := ck_nil h0
  refine ⟨a0, ⟨rfl, trivial⟩, fun s hs => ?_⟩
  have hs : s ∈ [SV.str a0] := hs
  simp only [List.mem_cons, List.not_mem_nil, or_false] at hs
  subst hs
  · exact w0
theorem wiFirmTable : RowOf riFirmTable [.str, .int .i64, .str] := fun row h => by
  obtain ⟨a0, _, rfl, w0, h0⟩ := ck_str h
  obtain ⟨a1, _, rfl, w1, h1⟩ := ck_int h0
  obtain ⟨a2, _, rfl, w2, h2⟩ := ck_str h1
  obtain rfl := ck_nil h2
  refine ⟨⟨a0, a1, a2⟩, ⟨rfl, rfl, rfl, trivial⟩, fun s hs => ?_⟩
  have hs : s ∈ [SV.str a0, SV.int .i64 a1, SV.str a2] := hs
  simp only [List.mem_cons, List.not_mem_nil, or_false] at hs
  rcases hs with rfl | rfl | rfl
  · exact w0
  · exact w1
  · exact w2
theorem wiDevice : RowOf riDevice [.int .i64, .int .i64, .int .i64] := fun row h => by
  obtain ⟨a0, _, rfl, w0, h0⟩ := ck_int h
  obtain ⟨a1, _, rfl, w1, h1⟩ := ck_int h0
  obtain ⟨a2, _, rfl, w2, h2⟩ := ck_int h1
  obtain rfl := ck_nil h2
  refine ⟨⟨a0, a1, a2⟩, ⟨rfl, rfl, rfl, trivial⟩, fun s hs => ?_⟩
  have hs : s ∈ [SV.int .i64 a0, SV.int .i64 a1, SV.int .i64 a2] := hs
  simp only [List.mem_cons, List.not_mem_nil, or_false] at hs
  rcases hs with rfl | rfl | rfl
  · exact w0
  · exact w1
  · exact w2
theorem wiPageMap : RowOf riPageMap [.int .i64, .int .i64, .int .i64, .bool] := fun row h => by
  obtain ⟨a0, _, rfl, w0, h0⟩ := ck_int h
  obtain ⟨a1, _, rfl, w1, h1⟩ := ck_int h0
  obtain ⟨a2, _, rfl, w2, h2⟩ := ck_int h1
  obtain ⟨a3, _, rfl, h3⟩ := ck_bool h2
  obtain rfl := ck_nil h3
  refine ⟨⟨a0, a1, a2, a3⟩, ⟨rfl, rfl, rfl, rfl, trivial⟩, fun s hs => ?_⟩
  have hs : s ∈ [SV.int .i64 a0, SV.int .i64 a1, SV.int .i64 a2, SV.bool a3] := hs
  simp only [List.mem_cons, List.not_mem_nil, or_false] at hs
  rcases hs with rfl | rfl | rfl | rfl
  · exact w0
  · exact w1
  · exact w2
  · exact trivial
theorem waA2i64 : RowOf raA2i64 [.int .i64, .int .i64] := fun row h => by
  obtain ⟨a0, _, rfl, w0, h0⟩ := ck_int h
  obtain ⟨a1, _, rfl, w1, h1⟩ := ck_int h0
  obtain rfl := ck_nil h1
  refine ⟨⟨a0, a1⟩, ⟨rfl, rfl, trivial⟩, fun s hs => ?_⟩
  have hs : s ∈ [SV.int .i64 a0, SV.int .i64 a1] := hs
  simp only [List.mem_cons, List.not_mem_nil, or_false] at hs
  rcases hs with rfl | rfl
  · exact w0
  · exact w1
theorem wlFirmTable : RowOf rlFirmTable [.str, .int .i64, .str] := fun row h => by
  obtain ⟨a0, _, rfl, w0, h0⟩ := ck_str h
  obtain ⟨a1, _, rfl, w1, h1⟩ := ck_int h0
  obtain ⟨a2, _, rfl, w2, h2⟩ := ck_str h1
  obtain rfl := ck_nil h2
  refine ⟨⟨a0, a1, a2⟩, ⟨rfl, rfl, rfl, trivial⟩, fun s hs => ?_⟩
  have hs : s ∈ [SV.str a0, SV.int .i64 a1, SV.str a2] := hs
  simp only [List.mem_cons, List.not_mem_nil, or_false] at hs
  rcases hs with rfl | rfl | rfl
  · exact w0
  · exact w1
  · exact w2
theorem wiEvent : RowOf riEvent [.int .i64, .int .i64, .int .i64, .int .i64] := fun row h => by
  obtain ⟨a0, _, rfl, w0, h0⟩ := ck_int h
  obtain ⟨a1, _, rfl, w1, h1⟩ := ck_int h0
  obtain ⟨a2, _, rfl, w2, h2⟩ := ck_int h1
  obtain ⟨a3, _, rfl, w3, h3⟩ := ck_int h2
  obtain rfl := ck_nil h3
  refine ⟨⟨a0, a1, a2, a3⟩, ⟨rfl, rfl, rfl, rfl, trivial⟩, fun s hs => ?_⟩
  have hs : s ∈ [SV.int .i64 a0, SV.int .i64 a1, SV.int .i64 a2, SV.int .i64 a3] := hs
  simp only [List.mem_cons, List.not_mem_nil, or_false] at hs
  rcases hs with rfl | rfl | rfl | rfl
  · exact w0
  · exact w1
  · exact w2
  · exact w3
theorem ok : EnvOk E where
  mixed := by kernel_rfl
  cells_len := B.cells_len
  plain := B.plain
  info := B.info
  rowK := fun _ _ _ _ h => B.rowK_ok h
  setK := fun _ _ _ _ _ h => B.setK_ok h
  appK := fun _ _ _ _ h => B.appK_ok h
  mkK := fun _ _ _ _ h => B.mkK_ok h
  zeroK := fun _ _ _ _ h => B.zeroK_ok h
  subK := fun _ _ _ _ _ h => B.subK_ok h
  strK := fun _ _ _ _ _ h => B.strK_ok h
  bytesK := fun _ _ _ _ h => B.bytesK_ok h
  ovK := fun _ _ _ _ _ h => B.ovK_ok h
  ty := fun _ _ h => tabLook_ok tab_ok h
end Go.Sa
