import Derived.Test.YtjimjkhpahegjaaOpn
import Derived.Test.YtjimjkhpahegjaaProg
set_option linter.all false
namespace Go.Sa
open Go Go.Eng Go.Proofs
set_option maxRecDepth 100000

def tab : Tab := [
  (1, ⟨1, 8, false, [.v .nilf], .other, none⟩),
  (2, ⟨1, 8, false, [.v (.int .i64 0)], .int .i64, none⟩),
  (3, ⟨1, 8, false, [.v (.int .i64 0)], .int .i64, none⟩),
  (4, ⟨1, 1, false, [.v (.bool false)], .bool, none⟩),
  (5, ⟨1, 1, false, [.v (.int .u8 0)], .int .u8, none⟩),
  (6, ⟨1, 1, false, [.v (.int .u8 0)], .int .u8, none⟩),
  (7, ⟨4, 24, true, [.v (.int .i64 0), .v (.int .i64 0), .v (.bool false), .v (.int .u8 0)], .struct [⟨0, 1, false⟩, ⟨1, 1, false⟩, ⟨2, 1, false⟩, ⟨3, 1, false⟩], some [.int .i64, .int .i64, .bool, .int .u8]⟩),
  (8, ⟨4, 24, true, [.v (.int .i64 0), .v (.int .i64 0), .v (.bool false), .v (.int .u8 0)], .struct [⟨0, 1, false⟩, ⟨1, 1, false⟩, ⟨2, 1, false⟩, ⟨3, 1, false⟩], some [.int .i64, .int .i64, .bool, .int .u8]⟩),
  (9, ⟨1, 16, false, [.v (.str ⟨#[]⟩)], .str, none⟩),
  (10, ⟨1, 16, false, [.v (.str ⟨#[]⟩)], .str, none⟩),
  (11, ⟨1, 16, false, [.v (.str ⟨#[]⟩)], .str, none⟩),
  (12, ⟨1, 8, false, [.v (.int .u64 0)], .int .u64, none⟩),
  (15, ⟨1, 8, false, [.v .nilp], .other, none⟩),
  (16, ⟨1, 8, false, [.v .nilp], .other, none⟩),
  (17, ⟨1, 8, false, [.v .nilp], .other, none⟩),
  (18, ⟨1, 8, true, [.v .nilp], .struct [⟨0, 1, false⟩], none⟩),
  (19, ⟨1, 8, true, [.v .nilp], .struct [⟨0, 1, false⟩], none⟩),
  (21, ⟨1, 4, false, [.v (.int .i32 0)], .int .i32, none⟩),
  (22, ⟨4, 40, true, [.v (.int .i64 0), .v (.int .i64 0), .v (.int .i64 0), .v (.str ⟨#[]⟩)], .struct [⟨0, 1, false⟩, ⟨1, 1, false⟩, ⟨2, 1, false⟩, ⟨3, 1, false⟩], some [.int .i64, .int .i64, .int .i64, .str]⟩),
  (23, ⟨4, 40, true, [.v (.int .i64 0), .v (.int .i64 0), .v (.int .i64 0), .v (.str ⟨#[]⟩)], .struct [⟨0, 1, false⟩, ⟨1, 1, false⟩, ⟨2, 1, false⟩, ⟨3, 1, false⟩], some [.int .i64, .int .i64, .int .i64, .str]⟩),
  (24, ⟨1, 8, false, [.v .nilf], .other, none⟩),
  (25, ⟨1, 8, false, [.v .nilf], .other, none⟩),
  (26, ⟨4, 40, true, [.v (.int .i64 0), .v (.int .i64 0), .v (.int .i64 0), .v (.str ⟨#[]⟩)], .struct [⟨0, 1, false⟩, ⟨1, 1, false⟩, ⟨2, 1, false⟩, ⟨3, 1, false⟩], some [.int .i64, .int .i64, .int .i64, .str]⟩),
  (27, ⟨1, 8, false, [.v .nilf], .other, none⟩),
  (28, ⟨1, 8, false, [.v .nilf], .other, none⟩),
  (29, ⟨1, 24, false, [.nils 112], .slice 112, none⟩),
  (30, ⟨1, 8, false, [.v .nilf], .other, none⟩),
  (31, ⟨1, 8, false, [.v .nilf], .other, none⟩),
  (32, ⟨1, 24, false, [.nils 110], .slice 110, none⟩),
  (33, ⟨1, 8, false, [.v .nilf], .other, none⟩),
  (34, ⟨1, 8, false, [.v .nilf], .other, none⟩),
  (35, ⟨1, 8, false, [.v .nilf], .other, none⟩),
  (36, ⟨1, 24, false, [.nils 169], .slice 169, none⟩),
  (37, ⟨3, 40, true, [.v (.int .i64 0), .v (.int .i64 0), .nils 169], .struct [⟨0, 1, false⟩, ⟨1, 1, false⟩, ⟨2, 1, false⟩], none⟩),
  (38, ⟨3, 40, true, [.v (.int .i64 0), .v (.int .i64 0), .nils 169], .struct [⟨0, 1, false⟩, ⟨1, 1, false⟩, ⟨2, 1, false⟩], none⟩),
  (39, ⟨1, 8, false, [.v .nilf], .other, none⟩),
  (40, ⟨1, 8, false, [.v .nilf], .other, none⟩),
  (41, ⟨1, 24, false, [.nils 116], .slice 116, none⟩),
  (42, ⟨3, 40, true, [.v (.int .i64 0), .v (.int .i64 0), .nils 116], .struct [⟨0, 1, false⟩, ⟨1, 1, false⟩, ⟨2, 1, false⟩], none⟩),
  (43, ⟨3, 40, true, [.v (.int .i64 0), .v (.int .i64 0), .nils 116], .struct [⟨0, 1, false⟩, ⟨1, 1, false⟩, ⟨2, 1, false⟩], none⟩),
  (44, ⟨1, 8, false, [.v .nilf], .other, none⟩),
  (45, ⟨1, 8, false, [.v .nilf], .other, none⟩),
  (46, ⟨1, 8, false, [.v .nilf], .other, none⟩),
  (47, ⟨1, 24, false, [.nils 123], .slice 123, none⟩),
  (48, ⟨1, 8, false, [.v .nilf], .other, none⟩),
  (49, ⟨1, 8, false, [.v .nilf], .other, none⟩),
  (50, ⟨1, 24, false, [.nils 120], .slice 120, none⟩),
  (51, ⟨1, 8, false, [.v .nilf], .other, none⟩),
  (52, ⟨1, 8, false, [.v .nilf], .other, none⟩),
  (53, ⟨1, 8, false, [.v .nilf], .other, none⟩),
  (54, ⟨1, 24, false, [.nils 126], .slice 126, none⟩),
  (55, ⟨1, 8, false, [.v .nilf], .other, none⟩),
  (56, ⟨1, 8, false, [.v .nilf], .other, none⟩),
  (57, ⟨1, 24, false, [.nils 72], .slice 72, none⟩),
  (58, ⟨1, 8, false, [.v .nilf], .other, none⟩),
  (59, ⟨1, 8, false, [.v .nilf], .other, none⟩),
  (60, ⟨1, 8, false, [.v .nilf], .other, none⟩),
  (61, ⟨1, 8, false, [.v .nilf], .other, none⟩),
  (62, ⟨1, 8, false, [.v .nilf], .other, none⟩),
  (63, ⟨1, 24, false, [.nils 5], .slice 5, none⟩),
  (65, ⟨1, 8, false, [.v .nilf], .other, none⟩),
  (66, ⟨1, 24, false, [.nils 2], .slice 2, none⟩),
  (67, ⟨3, 56, true, [.v (.int .i64 0), .nils 2, .nils 2], .struct [⟨0, 1, false⟩, ⟨1, 1, false⟩, ⟨2, 1, false⟩], none⟩),
  (68, ⟨3, 56, true, [.v (.int .i64 0), .nils 2, .nils 2], .struct [⟨0, 1, false⟩, ⟨1, 1, false⟩, ⟨2, 1, false⟩], none⟩),
  (69, ⟨1, 8, false, [.v .nilf], .other, none⟩),
  (70, ⟨1, 8, false, [.v .nilf], .other, none⟩),
  (71, ⟨3, 24, true, [.v (.int .i64 0), .v (.int .i64 0), .v (.int .i64 0)], .struct [⟨0, 1, false⟩, ⟨1, 1, false⟩, ⟨2, 1, false⟩], some [.int .i64, .int .i64, .int .i64]⟩),
  (72, ⟨3, 24, true, [.v (.int .i64 0), .v (.int .i64 0), .v (.int .i64 0)], .struct [⟨0, 1, false⟩, ⟨1, 1, false⟩, ⟨2, 1, false⟩], some [.int .i64, .int .i64, .int .i64]⟩),
  (73, ⟨1, 8, false, [.v .nilf], .other, none⟩),
  (74, ⟨1, 8, false, [.v .nilf], .other, none⟩),
  (75, ⟨1, 24, false, [.nils 139], .slice 139, none⟩),
  (76, ⟨1, 8, false, [.v .nilf], .other, none⟩),
  (77, ⟨1, 8, false, [.v .nilf], .other, none⟩),
  (78, ⟨1, 8, false, [.v .nilf], .other, none⟩),
  (79, ⟨1, 8, false, [.v .nilf], .other, none⟩),
  (80, ⟨1, 24, false, [.nils 144], .slice 144, none⟩),
  (81, ⟨1, 8, false, [.v .nilf], .other, none⟩),
  (82, ⟨1, 8, false, [.v .nilf], .other, none⟩),
  (83, ⟨1, 8, false, [.v .nilf], .other, none⟩),
  (84, ⟨1, 8, false, [.v .nilf], .other, none⟩),
  (85, ⟨1, 24, false, [.nils 180], .slice 180, none⟩),
  (86, ⟨2, 40, true, [.nils 180, .v (.str ⟨#[]⟩)], .struct [⟨0, 1, false⟩, ⟨1, 1, false⟩], none⟩),
  (87, ⟨2, 40, true, [.nils 180, .v (.str ⟨#[]⟩)], .struct [⟨0, 1, false⟩, ⟨1, 1, false⟩], none⟩),
  (88, ⟨1, 8, false, [.v .nilf], .other, none⟩),
  (89, ⟨1, 24, false, [.nils 159], .slice 159, none⟩),
  (90, ⟨2, 40, true, [.nils 159, .v (.str ⟨#[]⟩)], .struct [⟨0, 1, false⟩, ⟨1, 1, false⟩], none⟩),
  (91, ⟨2, 40, true, [.nils 159, .v (.str ⟨#[]⟩)], .struct [⟨0, 1, false⟩, ⟨1, 1, false⟩], none⟩),
  (92, ⟨3, 48, true, [.v (.int .i64 0), .nils 159, .v (.str ⟨#[]⟩)], .struct [⟨0, 1, false⟩, ⟨1, 2, true⟩], none⟩),
  (93, ⟨3, 48, true, [.v (.int .i64 0), .nils 159, .v (.str ⟨#[]⟩)], .struct [⟨0, 1, false⟩, ⟨1, 2, true⟩], none⟩),
  (94, ⟨1, 8, false, [.v .nilf], .other, none⟩),
  (95, ⟨1, 8, false, [.v .nilf], .other, none⟩),
  (96, ⟨1, 8, false, [.v .nilf], .other, none⟩),
  (97, ⟨1, 8, false, [.v .nilf], .other, none⟩),
  (98, ⟨1, 8, false, [.v .nilf], .other, none⟩),
  (99, ⟨1, 8, false, [.v .nilf], .other, none⟩),
  (100, ⟨1, 8, false, [.v .nilf], .other, none⟩),
  (101, ⟨2, 16, true, [.v (.int .i64 0), .v (.int .i64 0)], .struct [⟨0, 1, false⟩, ⟨1, 1, false⟩], some [.int .i64, .int .i64]⟩),
  (102, ⟨2, 16, true, [.v (.int .i64 0), .v (.int .i64 0)], .struct [⟨0, 1, false⟩, ⟨1, 1, false⟩], some [.int .i64, .int .i64]⟩),
  (103, ⟨1, 8, false, [.v .nilf], .other, none⟩),
  (104, ⟨1, 8, false, [.v .nilf], .other, none⟩),
  (105, ⟨1, 8, false, [.v .nilf], .other, none⟩),
  (106, ⟨1, 8, false, [.v .nilf], .other, none⟩),
  (107, ⟨1, 8, false, [.v .nilf], .other, none⟩),
  (108, ⟨1, 8, false, [.v .nilf], .other, none⟩),
  (109, ⟨4, 32, true, [.v (.int .i64 0), .v (.int .i64 0), .v (.int .i64 0), .v (.int .i64 0)], .struct [⟨0, 1, false⟩, ⟨1, 1, false⟩, ⟨2, 1, false⟩, ⟨3, 1, false⟩], some [.int .i64, .int .i64, .int .i64, .int .i64]⟩),
  (110, ⟨4, 32, true, [.v (.int .i64 0), .v (.int .i64 0), .v (.int .i64 0), .v (.int .i64 0)], .struct [⟨0, 1, false⟩, ⟨1, 1, false⟩, ⟨2, 1, false⟩, ⟨3, 1, false⟩], some [.int .i64, .int .i64, .int .i64, .int .i64]⟩),
  (111, ⟨1, 8, false, [.v .nilf], .other, none⟩),
  (112, ⟨4, 32, true, [.v (.int .i64 0), .v (.int .i64 0), .v (.int .i64 0), .v (.int .i64 0)], .struct [⟨0, 1, false⟩, ⟨1, 1, false⟩, ⟨2, 1, false⟩, ⟨3, 1, false⟩], some [.int .i64, .int .i64, .int .i64, .int .i64]⟩),
  (113, ⟨1, 8, false, [.v .nilf], .other, none⟩),
  (114, ⟨1, 8, false, [.v .nilf], .other, none⟩),
  (115, ⟨3, 24, true, [.v (.int .i64 0), .v (.int .i64 0), .v (.int .i64 0)], .struct [⟨0, 1, false⟩, ⟨1, 1, false⟩, ⟨2, 1, false⟩], some [.int .i64, .int .i64, .int .i64]⟩),
  (116, ⟨3, 24, true, [.v (.int .i64 0), .v (.int .i64 0), .v (.int .i64 0)], .struct [⟨0, 1, false⟩, ⟨1, 1, false⟩, ⟨2, 1, false⟩], some [.int .i64, .int .i64, .int .i64]⟩),
  (117, ⟨1, 8, false, [.v .nilf], .other, none⟩),
  (118, ⟨1, 8, false, [.v .nilf], .other, none⟩),
  (119, ⟨9, 72, true, [.v (.int .i64 0), .v (.int .i64 0), .v (.int .i64 0), .v (.int .i64 0), .v (.bool false), .v (.int .i64 0), .v (.int .i64 0), .v (.int .i64 0), .v (.int .i64 0)], .struct [⟨0, 1, false⟩, ⟨1, 1, false⟩, ⟨2, 1, false⟩, ⟨3, 1, false⟩, ⟨4, 1, false⟩, ⟨5, 1, false⟩, ⟨6, 1, false⟩, ⟨7, 1, false⟩, ⟨8, 1, false⟩], some [.int .i64, .int .i64, .int .i64, .int .i64, .bool, .int .i64, .int .i64, .int .i64, .int .i64]⟩),
  (120, ⟨9, 72, true, [.v (.int .i64 0), .v (.int .i64 0), .v (.int .i64 0), .v (.int .i64 0), .v (.bool false), .v (.int .i64 0), .v (.int .i64 0), .v (.int .i64 0), .v (.int .i64 0)], .struct [⟨0, 1, false⟩, ⟨1, 1, false⟩, ⟨2, 1, false⟩, ⟨3, 1, false⟩, ⟨4, 1, false⟩, ⟨5, 1, false⟩, ⟨6, 1, false⟩, ⟨7, 1, false⟩, ⟨8, 1, false⟩], some [.int .i64, .int .i64, .int .i64, .int .i64, .bool, .int .i64, .int .i64, .int .i64, .int .i64]⟩),
  (121, ⟨1, 8, false, [.v (.int .u64 0)], .int .u64, none⟩),
  (122, ⟨1, 8, false, [.v .nilf], .other, none⟩),
  (123, ⟨9, 72, true, [.v (.int .i64 0), .v (.int .i64 0), .v (.int .i64 0), .v (.int .i64 0), .v (.bool false), .v (.int .i64 0), .v (.int .i64 0), .v (.int .i64 0), .v (.int .i64 0)], .struct [⟨0, 1, false⟩, ⟨1, 1, false⟩, ⟨2, 1, false⟩, ⟨3, 1, false⟩, ⟨4, 1, false⟩, ⟨5, 1, false⟩, ⟨6, 1, false⟩, ⟨7, 1, false⟩, ⟨8, 1, false⟩], some [.int .i64, .int .i64, .int .i64, .int .i64, .bool, .int .i64, .int .i64, .int .i64, .int .i64]⟩),
  (124, ⟨1, 8, false, [.v .nilf], .other, none⟩),
  (125, ⟨1, 8, false, [.v .nilf], .other, none⟩),
  (126, ⟨3, 24, true, [.v (.int .i64 0), .v (.int .i64 0), .v (.int .i64 0)], .struct [⟨0, 1, false⟩, ⟨1, 1, false⟩, ⟨2, 1, false⟩], some [.int .i64, .int .i64, .int .i64]⟩),
  (127, ⟨1, 8, false, [.v .nilf], .other, none⟩),
  (128, ⟨1, 8, false, [.v .nilf], .other, none⟩),
  (129, ⟨1, 8, false, [.v .nilf], .other, none⟩),
  (130, ⟨1, 8, false, [.v .nilf], .other, none⟩),
  (131, ⟨1, 8, false, [.v .nilf], .other, none⟩),
  (132, ⟨1, 8, false, [.v .nilp], .other, none⟩),
  (133, ⟨1, 8, false, [.v .nilf], .other, none⟩),
  (134, ⟨1, 8, false, [.v .nilf], .other, none⟩),
  (135, ⟨1, 8, false, [.v .nilf], .other, none⟩),
  (136, ⟨1, 8, false, [.v .nilf], .other, none⟩),
  (137, ⟨1, 8, false, [.v (.int .u64 0)], .int .u64, none⟩),
  (138, ⟨3, 40, true, [.v (.str ⟨#[]⟩), .v (.int .i64 0), .v (.str ⟨#[]⟩)], .struct [⟨0, 1, false⟩, ⟨1, 1, false⟩, ⟨2, 1, false⟩], some [.str, .int .i64, .str]⟩),
  (139, ⟨3, 40, true, [.v (.str ⟨#[]⟩), .v (.int .i64 0), .v (.str ⟨#[]⟩)], .struct [⟨0, 1, false⟩, ⟨1, 1, false⟩, ⟨2, 1, false⟩], some [.str, .int .i64, .str]⟩),
  (140, ⟨1, 8, false, [.v .nilf], .other, none⟩),
  (141, ⟨1, 8, false, [.v .nilf], .other, none⟩),
  (142, ⟨1, 8, false, [.v .nilf], .other, none⟩),
  (143, ⟨1, 8, false, [.v .nilf], .other, none⟩),
  (144, ⟨3, 40, true, [.v (.str ⟨#[]⟩), .v (.int .i64 0), .v (.str ⟨#[]⟩)], .struct [⟨0, 1, false⟩, ⟨1, 1, false⟩, ⟨2, 1, false⟩], some [.str, .int .i64, .str]⟩),
  (145, ⟨1, 8, false, [.v .nilf], .other, none⟩),
  (146, ⟨1, 8, false, [.v .nilf], .other, none⟩),
  (147, ⟨1, 8, false, [.v .nilf], .other, none⟩),
  (148, ⟨1, 8, false, [.v .nilf], .other, none⟩),
  (149, ⟨1, 8, false, [.v .nilf], .other, none⟩),
  (150, ⟨1, 8, false, [.v .nilf], .other, none⟩),
  (151, ⟨1, 8, false, [.v .nilf], .other, none⟩),
  (152, ⟨1, 8, false, [.v .nilf], .other, none⟩),
  (153, ⟨1, 8, false, [.v .nilf], .other, none⟩),
  (154, ⟨1, 8, false, [.v .nilf], .other, none⟩),
  (155, ⟨1, 8, false, [.v .nilf], .other, none⟩),
  (156, ⟨1, 8, false, [.v .nilf], .other, none⟩),
  (157, ⟨1, 8, false, [.v .nilf], .other, none⟩),
  (158, ⟨3, 40, true, [.v (.int .i64 0), .v (.str ⟨#[]⟩), .v (.str ⟨#[]⟩)], .struct [⟨0, 1, false⟩, ⟨1, 1, false⟩, ⟨2, 1, false⟩], some [.int .i64, .str, .str]⟩),
  (159, ⟨3, 40, true, [.v (.int .i64 0), .v (.str ⟨#[]⟩), .v (.str ⟨#[]⟩)], .struct [⟨0, 1, false⟩, ⟨1, 1, false⟩, ⟨2, 1, false⟩], some [.int .i64, .str, .str]⟩),
  (160, ⟨1, 8, false, [.v .nilf], .other, none⟩),
  (161, ⟨1, 8, false, [.v .nilf], .other, none⟩),
  (162, ⟨1, 8, false, [.v .nilf], .other, none⟩),
  (163, ⟨1, 8, false, [.v .nilf], .other, none⟩),
  (164, ⟨1, 8, false, [.v .nilf], .other, none⟩),
  (165, ⟨1, 8, false, [.v .nilf], .other, none⟩),
  (166, ⟨1, 8, false, [.v .nilf], .other, none⟩),
  (167, ⟨1, 8, false, [.v .nilf], .other, none⟩),
  (168, ⟨1, 8, false, [.v .nilf], .other, none⟩),
  (169, ⟨3, 24, true, [.v (.int .i64 0), .v (.int .i64 0), .v (.int .i64 0)], .struct [⟨0, 1, false⟩, ⟨1, 1, false⟩, ⟨2, 1, false⟩], some [.int .i64, .int .i64, .int .i64]⟩),
  (170, ⟨1, 8, false, [.v .nilf], .other, none⟩),
  (171, ⟨1, 8, false, [.v .nilf], .other, none⟩),
  (172, ⟨1, 8, false, [.v .nilf], .other, none⟩),
  (173, ⟨1, 24, false, [.nils 9], .slice 9, none⟩),
  (174, ⟨1, 8, false, [.v .nilf], .other, none⟩),
  (175, ⟨1, 4, false, [.v (.int .u32 0)], .int .u32, none⟩),
  (176, ⟨4, 48, true, [.nils 5, .v (.int .i64 0), .v (.int .u64 0), .v (.int .i64 0)], .struct [⟨0, 1, false⟩, ⟨1, 1, false⟩, ⟨2, 1, false⟩, ⟨3, 1, false⟩], none⟩),
  (177, ⟨4, 48, true, [.nils 5, .v (.int .i64 0), .v (.int .u64 0), .v (.int .i64 0)], .struct [⟨0, 1, false⟩, ⟨1, 1, false⟩, ⟨2, 1, false⟩, ⟨3, 1, false⟩], none⟩),
  (178, ⟨1, 8, false, [.v .nilf], .other, none⟩),
  (179, ⟨1, 8, false, [.v .nilf], .other, none⟩),
  (180, ⟨3, 40, true, [.v (.int .i64 0), .v (.str ⟨#[]⟩), .v (.str ⟨#[]⟩)], .struct [⟨0, 1, false⟩, ⟨1, 1, false⟩, ⟨2, 1, false⟩], some [.int .i64, .str, .str]⟩),
  (181, ⟨1, 8, false, [.v .nilf], .other, none⟩),
  (182, ⟨1, 8, false, [.v .nilf], .other, none⟩),
  (183, ⟨1, 8, false, [.v .nilf], .other, none⟩),
  (184, ⟨1, 8, false, [.v .nilf], .other, none⟩),
  (185, ⟨1, 8, false, [.v .nilf], .other, none⟩),
  (186, ⟨1, 8, false, [.v .nilf], .other, none⟩),
  (187, ⟨1, 8, false, [.v .nilf], .other, none⟩),
  (188, ⟨1, 8, false, [.v .nilp], .other, none⟩),
  (189, ⟨2, 32, true, [.v .nilp, .nils 5], .struct [⟨0, 1, false⟩, ⟨1, 1, false⟩], none⟩),
  (190, ⟨2, 32, true, [.v .nilp, .nils 5], .struct [⟨0, 1, false⟩, ⟨1, 1, false⟩], none⟩),
  (194, ⟨1, 8, false, [.v .nilf], .other, none⟩),
  (195, ⟨1, 8, false, [.v .nilf], .other, none⟩),
  (196, ⟨1, 8, false, [.v .nilf], .other, none⟩),
  (197, ⟨1, 8, false, [.v .nilf], .other, none⟩),
  (198, ⟨1, 8, false, [.v .nilf], .other, none⟩),
  (199, ⟨1, 8, false, [.v .nilf], .other, none⟩),
  (200, ⟨1, 8, false, [.v .nilf], .other, none⟩),
  (201, ⟨1, 8, false, [.v .nilp], .other, none⟩),
  (203, ⟨1, 8, false, [.v .nilf], .other, none⟩),
  (204, ⟨1, 8, false, [.v .nilf], .other, none⟩),
  (205, ⟨4, 40, true, [.v .nilp, .v .nilp, .v .nilp, .v (.str ⟨#[]⟩)], .struct [⟨0, 1, false⟩, ⟨1, 1, false⟩, ⟨2, 1, false⟩, ⟨3, 1, false⟩], none⟩),
  (206, ⟨4, 40, true, [.v .nilp, .v .nilp, .v .nilp, .v (.str ⟨#[]⟩)], .struct [⟨0, 1, false⟩, ⟨1, 1, false⟩, ⟨2, 1, false⟩, ⟨3, 1, false⟩], none⟩),
  (207, ⟨0, 0, true, [], .array 0 16, none⟩),
  (208, ⟨0, 0, true, [], .struct [⟨0, 0, true⟩], none⟩),
  (209, ⟨0, 0, true, [], .struct [⟨0, 0, true⟩], none⟩),
  (210, ⟨1, 8, false, [.v .nilf], .other, none⟩),
  (211, ⟨1, 1, false, [.v (.int .u8 0)], .int .u8, none⟩),
  (212, ⟨1, 1, false, [.v (.int .u8 0)], .int .u8, none⟩),
  (213, ⟨1, 8, false, [.v .nilf], .other, none⟩),
  (214, ⟨1, 4, false, [.v (.int .i32 0)], .int .i32, none⟩),
  (215, ⟨1, 4, false, [.v (.int .i32 0)], .int .i32, none⟩),
  (216, ⟨11, 48, true, [.v (.int .u64 0), .v (.int .u64 0), .v (.int .u32 0), .v (.int .u8 0), .v (.int .u8 0), .v (.int .u8 0), .v (.int .u8 0), .v .nilf, .v .nilp, .v (.int .i32 0), .v (.int .i32 0)], .struct [⟨0, 1, false⟩, ⟨1, 1, false⟩, ⟨2, 1, false⟩, ⟨3, 1, false⟩, ⟨4, 1, false⟩, ⟨5, 1, false⟩, ⟨6, 1, false⟩, ⟨7, 1, false⟩, ⟨8, 1, false⟩, ⟨9, 1, false⟩, ⟨10, 1, false⟩], none⟩),
  (217, ⟨11, 48, true, [.v (.int .u64 0), .v (.int .u64 0), .v (.int .u32 0), .v (.int .u8 0), .v (.int .u8 0), .v (.int .u8 0), .v (.int .u8 0), .v .nilf, .v .nilp, .v (.int .i32 0), .v (.int .i32 0)], .struct [⟨0, 1, false⟩, ⟨1, 1, false⟩, ⟨2, 1, false⟩, ⟨3, 1, false⟩, ⟨4, 1, false⟩, ⟨5, 1, false⟩, ⟨6, 1, false⟩, ⟨7, 1, false⟩, ⟨8, 1, false⟩, ⟨9, 1, false⟩, ⟨10, 1, false⟩], none⟩)]
theorem tab_ok : tab.all (fun x => tyIs Try.prog x.1 x.2) = true := by kernel_rfl

structure RtTask where
  fStart : Int
  fPeriod : Int
  fBudget : Int
deriving DecidableEq
def tiRtTask : RT RtTask where
  elt := 72
  sz := 3
  cells := fun x => [.int .i64 x.fStart, .int .i64 x.fPeriod, .int .i64 x.fBudget]
  ofK := fun l K => match l with
    | [.int .i64 a0, .int .i64 a1, .int .i64 a2] => K ⟨a0, a1, a2⟩
    | _ => none
theorem tiRtTask_ok (P : Program) (h : ∃ inf, P.info? 72 = some inf ∧ inf.size = 3) : RTOk P tiRtTask where
  len := fun _ => rfl
  plain := fun x s hs => by
    simp only [tiRtTask, List.mem_cons, List.not_mem_nil, or_false] at hs
    rcases hs with rfl | rfl | rfl <;> rfl
  of := fun l K r e => by
    simp only [tiRtTask] at e ⊢
    split at e
    · exact ⟨_, e, rfl⟩
    · cases e
  info := let ⟨inf, h1, h2⟩ := h; ⟨inf, h1, h2, by decide⟩
structure Event where
  fAt : Int
  fKind : Int
  fNum : Int
  fValue : Int
deriving DecidableEq
def tiEvent : RT Event where
  elt := 110
  sz := 4
  cells := fun x => [.int .i64 x.fAt, .int .i64 x.fKind, .int .i64 x.fNum, .int .i64 x.fValue]
  ofK := fun l K => match l with
    | [.int .i64 a0, .int .i64 a1, .int .i64 a2, .int .i64 a3] => K ⟨a0, a1, a2, a3⟩
    | _ => none
theorem tiEvent_ok (P : Program) (h : ∃ inf, P.info? 110 = some inf ∧ inf.size = 4) : RTOk P tiEvent where
  len := fun _ => rfl
  plain := fun x s hs => by
    simp only [tiEvent, List.mem_cons, List.not_mem_nil, or_false] at hs
    rcases hs with rfl | rfl | rfl | rfl <;> rfl
  of := fun l K r e => by
    simp only [tiEvent] at e ⊢
    split at e
    · exact ⟨_, e, rfl⟩
    · cases e
  info := let ⟨inf, h1, h2⟩ := h; ⟨inf, h1, h2, by decide⟩
def tlEvent : RT Event where
  elt := 112
  sz := 4
  cells := fun x => [.int .i64 x.fAt, .int .i64 x.fKind, .int .i64 x.fNum, .int .i64 x.fValue]
  ofK := fun l K => match l with
    | [.int .i64 a0, .int .i64 a1, .int .i64 a2, .int .i64 a3] => K ⟨a0, a1, a2, a3⟩
    | _ => none
theorem tlEvent_ok (P : Program) (h : ∃ inf, P.info? 112 = some inf ∧ inf.size = 4) : RTOk P tlEvent where
  len := fun _ => rfl
  plain := fun x s hs => by
    simp only [tlEvent, List.mem_cons, List.not_mem_nil, or_false] at hs
    rcases hs with rfl | rfl | rfl | rfl <;> rfl
  of := fun l K r e => by
    simp only [tlEvent] at e ⊢
    split at e
    · exact ⟨_, e, rfl⟩
    · cases e
  info := let ⟨inf, h1, h2⟩ := h; ⟨inf, h1, h2, by decide⟩
structure Device where
  fKind : Int
  fPort : Int
  fLine : Int
deriving DecidableEq
def tiDevice : RT Device where
  elt := 116
  sz := 3
  cells := fun x => [.int .i64 x.fKind, .int .i64 x.fPort, .int .i64 x.fLine]
  ofK := fun l K => match l with
    | [.int .i64 a0, .int .i64 a1, .int .i64 a2] => K ⟨a0, a1, a2⟩
    | _ => none
theorem tiDevice_ok (P : Program) (h : ∃ inf, P.info? 116 = some inf ∧ inf.size = 3) : RTOk P tiDevice where
  len := fun _ => rfl
  plain := fun x s hs => by
    simp only [tiDevice, List.mem_cons, List.not_mem_nil, or_false] at hs
    rcases hs with rfl | rfl | rfl <;> rfl
  of := fun l K r e => by
    simp only [tiDevice] at e ⊢
    split at e
    · exact ⟨_, e, rfl⟩
    · cases e
  info := let ⟨inf, h1, h2⟩ := h; ⟨inf, h1, h2, by decide⟩
structure Vcpu where
  fGuest : Int
  fWeight : Int
  fCap : Int
  fMask : Int
  fAwake : Bool
  fCredit : Int
  fUsed : Int
  fRan : Int
  fStolen : Int
deriving DecidableEq
def tiVcpu : RT Vcpu where
  elt := 120
  sz := 9
  cells := fun x => [.int .i64 x.fGuest, .int .i64 x.fWeight, .int .i64 x.fCap, .int .i64 x.fMask, .bool x.fAwake, .int .i64 x.fCredit, .int .i64 x.fUsed, .int .i64 x.fRan, .int .i64 x.fStolen]
  ofK := fun l K => match l with
    | [.int .i64 a0, .int .i64 a1, .int .i64 a2, .int .i64 a3, .bool a4, .int .i64 a5, .int .i64 a6, .int .i64 a7, .int .i64 a8] => K ⟨a0, a1, a2, a3, a4, a5, a6, a7, a8⟩
    | _ => none
theorem tiVcpu_ok (P : Program) (h : ∃ inf, P.info? 120 = some inf ∧ inf.size = 9) : RTOk P tiVcpu where
  len := fun _ => rfl
  plain := fun x s hs => by
    simp only [tiVcpu, List.mem_cons, List.not_mem_nil, or_false] at hs
    rcases hs with rfl | rfl | rfl | rfl | rfl | rfl | rfl | rfl | rfl <;> rfl
  of := fun l K r e => by
    simp only [tiVcpu] at e ⊢
    split at e
    · exact ⟨_, e, rfl⟩
    · cases e
  info := let ⟨inf, h1, h2⟩ := h; ⟨inf, h1, h2, by decide⟩
def tlVcpu : RT Vcpu where
  elt := 123
  sz := 9
  cells := fun x => [.int .i64 x.fGuest, .int .i64 x.fWeight, .int .i64 x.fCap, .int .i64 x.fMask, .bool x.fAwake, .int .i64 x.fCredit, .int .i64 x.fUsed, .int .i64 x.fRan, .int .i64 x.fStolen]
  ofK := fun l K => match l with
    | [.int .i64 a0, .int .i64 a1, .int .i64 a2, .int .i64 a3, .bool a4, .int .i64 a5, .int .i64 a6, .int .i64 a7, .int .i64 a8] => K ⟨a0, a1, a2, a3, a4, a5, a6, a7, a8⟩
    | _ => none
theorem tlVcpu_ok (P : Program) (h : ∃ inf, P.info? 123 = some inf ∧ inf.size = 9) : RTOk P tlVcpu where
  len := fun _ => rfl
  plain := fun x s hs => by
    simp only [tlVcpu, List.mem_cons, List.not_mem_nil, or_false] at hs
    rcases hs with rfl | rfl | rfl | rfl | rfl | rfl | rfl | rfl | rfl <;> rfl
  of := fun l K r e => by
    simp only [tlVcpu] at e ⊢
    split at e
    · exact ⟨_, e, rfl⟩
    · cases e
  info := let ⟨inf, h1, h2⟩ := h; ⟨inf, h1, h2, by decide⟩
def tlRtTask : RT RtTask where
  elt := 126
  sz := 3
  cells := fun x => [.int .i64 x.fStart, .int .i64 x.fPeriod, .int .i64 x.fBudget]
  ofK := fun l K => match l with
    | [.int .i64 a0, .int .i64 a1, .int .i64 a2] => K ⟨a0, a1, a2⟩
    | _ => none
theorem tlRtTask_ok (P : Program) (h : ∃ inf, P.info? 126 = some inf ∧ inf.size = 3) : RTOk P tlRtTask where
  len := fun _ => rfl
  plain := fun x s hs => by
    simp only [tlRtTask, List.mem_cons, List.not_mem_nil, or_false] at hs
    rcases hs with rfl | rfl | rfl <;> rfl
  of := fun l K r e => by
    simp only [tlRtTask] at e ⊢
    split at e
    · exact ⟨_, e, rfl⟩
    · cases e
  info := let ⟨inf, h1, h2⟩ := h; ⟨inf, h1, h2, by decide⟩
structure FirmTable where
  fName : ByteArray
  fRev : Int
  fBody : ByteArray
deriving DecidableEq
def tiFirmTable : RT FirmTable where
  elt := 139
  sz := 3
  cells := fun x => [.str x.fName, .int .i64 x.fRev, .str x.fBody]
  ofK := fun l K => match l with
    | [.str a0, .int .i64 a1, .str a2] => K ⟨a0, a1, a2⟩
    | _ => none
theorem tiFirmTable_ok (P : Program) (h : ∃ inf, P.info? 139 = some inf ∧ inf.size = 3) : RTOk P tiFirmTable where
  len := fun _ => rfl
  plain := fun x s hs => by
    simp only [tiFirmTable, List.mem_cons, List.not_mem_nil, or_false] at hs
    rcases hs with rfl | rfl | rfl <;> rfl
  of := fun l K r e => by
    simp only [tiFirmTable] at e ⊢
    split at e
    · exact ⟨_, e, rfl⟩
    · cases e
  info := let ⟨inf, h1, h2⟩ := h; ⟨inf, h1, h2, by decide⟩
def tlFirmTable : RT FirmTable where
  elt := 144
  sz := 3
  cells := fun x => [.str x.fName, .int .i64 x.fRev, .str x.fBody]
  ofK := fun l K => match l with
    | [.str a0, .int .i64 a1, .str a2] => K ⟨a0, a1, a2⟩
    | _ => none
theorem tlFirmTable_ok (P : Program) (h : ∃ inf, P.info? 144 = some inf ∧ inf.size = 3) : RTOk P tlFirmTable where
  len := fun _ => rfl
  plain := fun x s hs => by
    simp only [tlFirmTable, List.mem_cons, List.not_mem_nil, or_false] at hs
    rcases hs with rfl | rfl | rfl <;> rfl
  of := fun l K r e => by
    simp only [tlFirmTable] at e ⊢
    split at e
    · exact ⟨_, e, rfl⟩
    · cases e
  info := let ⟨inf, h1, h2⟩ := h; ⟨inf, h1, h2, by decide⟩
structure KeySlot where
  fSalt : Int
  fKey : ByteArray
  fTag : ByteArray
deriving DecidableEq
def tiKeySlot : RT KeySlot where
  elt := 159
  sz := 3
  cells := fun x => [.int .i64 x.fSalt, .str x.fKey, .str x.fTag]
  ofK := fun l K => match l with
    | [.int .i64 a0, .str a1, .str a2] => K ⟨a0, a1, a2⟩
    | _ => none
theorem tiKeySlot_ok (P : Program) (h : ∃ inf, P.info? 159 = some inf ∧ inf.size = 3) : RTOk P tiKeySlot where
  len := fun _ => rfl
  plain := fun x s hs => by
    simp only [tiKeySlot, List.mem_cons, List.not_mem_nil, or_false] at hs
    rcases hs with rfl | rfl | rfl <;> rfl
  of := fun l K r e => by
    simp only [tiKeySlot] at e ⊢
    split at e
    · exact ⟨_, e, rfl⟩
    · cases e
  info := let ⟨inf, h1, h2⟩ := h; ⟨inf, h1, h2, by decide⟩
def tlDevice : RT Device where
  elt := 169
  sz := 3
  cells := fun x => [.int .i64 x.fKind, .int .i64 x.fPort, .int .i64 x.fLine]
  ofK := fun l K => match l with
    | [.int .i64 a0, .int .i64 a1, .int .i64 a2] => K ⟨a0, a1, a2⟩
    | _ => none
theorem tlDevice_ok (P : Program) (h : ∃ inf, P.info? 169 = some inf ∧ inf.size = 3) : RTOk P tlDevice where
  len := fun _ => rfl
  plain := fun x s hs => by
    simp only [tlDevice, List.mem_cons, List.not_mem_nil, or_false] at hs
    rcases hs with rfl | rfl | rfl <;> rfl
  of := fun l K r e => by
    simp only [tlDevice] at e ⊢
    split at e
    · exact ⟨_, e, rfl⟩
    · cases e
  info := let ⟨inf, h1, h2⟩ := h; ⟨inf, h1, h2, by decide⟩
def tlKeySlot : RT KeySlot where
  elt := 180
  sz := 3
  cells := fun x => [.int .i64 x.fSalt, .str x.fKey, .str x.fTag]
  ofK := fun l K => match l with
    | [.int .i64 a0, .str a1, .str a2] => K ⟨a0, a1, a2⟩
    | _ => none
theorem tlKeySlot_ok (P : Program) (h : ∃ inf, P.info? 180 = some inf ∧ inf.size = 3) : RTOk P tlKeySlot where
  len := fun _ => rfl
  plain := fun x s hs => by
    simp only [tlKeySlot, List.mem_cons, List.not_mem_nil, or_false] at hs
    rcases hs with rfl | rfl | rfl <;> rfl
  of := fun l K r e => by
    simp only [tlKeySlot] at e ⊢
    split at e
    · exact ⟨_, e, rfl⟩
    · cases e
  info := let ⟨inf, h1, h2⟩ := h; ⟨inf, h1, h2, by decide⟩
inductive B where
  | i64 (l : List Int)
  | u8 (l : List Int)
  | str (l : List ByteArray)
  | iRtTask (l : List RtTask)
  | iEvent (l : List Event)
  | lEvent (l : List Event)
  | iDevice (l : List Device)
  | iVcpu (l : List Vcpu)
  | lVcpu (l : List Vcpu)
  | lRtTask (l : List RtTask)
  | iFirmTable (l : List FirmTable)
  | lFirmTable (l : List FirmTable)
  | iKeySlot (l : List KeySlot)
  | lDevice (l : List Device)
  | lKeySlot (l : List KeySlot)

abbrev ri64 : RT Int := rtInt 2 .i64
abbrev ru8 : RT Int := rtInt 5 .u8
abbrev rstr : RT ByteArray := rtStr 9
abbrev riRtTask : RT RtTask := tiRtTask
abbrev riEvent : RT Event := tiEvent
abbrev rlEvent : RT Event := tlEvent
abbrev riDevice : RT Device := tiDevice
abbrev riVcpu : RT Vcpu := tiVcpu
abbrev rlVcpu : RT Vcpu := tlVcpu
abbrev rlRtTask : RT RtTask := tlRtTask
abbrev riFirmTable : RT FirmTable := tiFirmTable
abbrev rlFirmTable : RT FirmTable := tlFirmTable
abbrev riKeySlot : RT KeySlot := tiKeySlot
abbrev rlDevice : RT Device := tlDevice
abbrev rlKeySlot : RT KeySlot := tlKeySlot
def B.elt : B → TypeId
  | .i64 _ => 2
  | .u8 _ => 5
  | .str _ => 9
  | .iRtTask _ => 72
  | .iEvent _ => 110
  | .lEvent _ => 112
  | .iDevice _ => 116
  | .iVcpu _ => 120
  | .lVcpu _ => 123
  | .lRtTask _ => 126
  | .iFirmTable _ => 139
  | .lFirmTable _ => 144
  | .iKeySlot _ => 159
  | .lDevice _ => 169
  | .lKeySlot _ => 180
def B.sz : B → Nat
  | .i64 _ => 1
  | .u8 _ => 1
  | .str _ => 1
  | .iRtTask _ => 3
  | .iEvent _ => 4
  | .lEvent _ => 4
  | .iDevice _ => 3
  | .iVcpu _ => 9
  | .lVcpu _ => 9
  | .lRtTask _ => 3
  | .iFirmTable _ => 3
  | .lFirmTable _ => 3
  | .iKeySlot _ => 3
  | .lDevice _ => 3
  | .lKeySlot _ => 3
def B.cells : B → List SV
  | .i64 l => rtCells ri64 l
  | .u8 l => rtCells ru8 l
  | .str l => rtCells rstr l
  | .iRtTask l => rtCells riRtTask l
  | .iEvent l => rtCells riEvent l
  | .lEvent l => rtCells rlEvent l
  | .iDevice l => rtCells riDevice l
  | .iVcpu l => rtCells riVcpu l
  | .lVcpu l => rtCells rlVcpu l
  | .lRtTask l => rtCells rlRtTask l
  | .iFirmTable l => rtCells riFirmTable l
  | .lFirmTable l => rtCells rlFirmTable l
  | .iKeySlot l => rtCells riKeySlot l
  | .lDevice l => rtCells rlDevice l
  | .lKeySlot l => rtCells rlKeySlot l
def B.len : B → Nat
  | .i64 l => l.length
  | .u8 l => l.length
  | .str l => l.length
  | .iRtTask l => l.length
  | .iEvent l => l.length
  | .lEvent l => l.length
  | .iDevice l => l.length
  | .iVcpu l => l.length
  | .lVcpu l => l.length
  | .lRtTask l => l.length
  | .iFirmTable l => l.length
  | .lFirmTable l => l.length
  | .iKeySlot l => l.length
  | .lDevice l => l.length
  | .lKeySlot l => l.length
section
variable {α : Type}
def B.rowK : B → Nat → (List SV → Option α) → Option α
  | .i64 l, n, K => rtRow ri64 l n K
  | .u8 l, n, K => rtRow ru8 l n K
  | .str l, n, K => rtRow rstr l n K
  | .iRtTask l, n, K => rtRow riRtTask l n K
  | .iEvent l, n, K => rtRow riEvent l n K
  | .lEvent l, n, K => rtRow rlEvent l n K
  | .iDevice l, n, K => rtRow riDevice l n K
  | .iVcpu l, n, K => rtRow riVcpu l n K
  | .lVcpu l, n, K => rtRow rlVcpu l n K
  | .lRtTask l, n, K => rtRow rlRtTask l n K
  | .iFirmTable l, n, K => rtRow riFirmTable l n K
  | .lFirmTable l, n, K => rtRow rlFirmTable l n K
  | .iKeySlot l, n, K => rtRow riKeySlot l n K
  | .lDevice l, n, K => rtRow rlDevice l n K
  | .lKeySlot l, n, K => rtRow rlKeySlot l n K
def B.setK : B → Nat → List SV → (B → Option α) → Option α
  | .i64 l, n, v, K => rtSet ri64 l n v fun l => K (.i64 l)
  | .u8 l, n, v, K => rtSet ru8 l n v fun l => K (.u8 l)
  | .str l, n, v, K => rtSet rstr l n v fun l => K (.str l)
  | .iRtTask l, n, v, K => rtSet riRtTask l n v fun l => K (.iRtTask l)
  | .iEvent l, n, v, K => rtSet riEvent l n v fun l => K (.iEvent l)
  | .lEvent l, n, v, K => rtSet rlEvent l n v fun l => K (.lEvent l)
  | .iDevice l, n, v, K => rtSet riDevice l n v fun l => K (.iDevice l)
  | .iVcpu l, n, v, K => rtSet riVcpu l n v fun l => K (.iVcpu l)
  | .lVcpu l, n, v, K => rtSet rlVcpu l n v fun l => K (.lVcpu l)
  | .lRtTask l, n, v, K => rtSet rlRtTask l n v fun l => K (.lRtTask l)
  | .iFirmTable l, n, v, K => rtSet riFirmTable l n v fun l => K (.iFirmTable l)
  | .lFirmTable l, n, v, K => rtSet rlFirmTable l n v fun l => K (.lFirmTable l)
  | .iKeySlot l, n, v, K => rtSet riKeySlot l n v fun l => K (.iKeySlot l)
  | .lDevice l, n, v, K => rtSet rlDevice l n v fun l => K (.lDevice l)
  | .lKeySlot l, n, v, K => rtSet rlKeySlot l n v fun l => K (.lKeySlot l)
def B.appK : B → B → (B → Option α) → Option α
  | .i64 a, .i64 b, K => K (.i64 (a ++ b))
  | .u8 a, .u8 b, K => K (.u8 (a ++ b))
  | .str a, .str b, K => K (.str (a ++ b))
  | .iRtTask a, .iRtTask b, K => K (.iRtTask (a ++ b))
  | .iEvent a, .iEvent b, K => K (.iEvent (a ++ b))
  | .lEvent a, .lEvent b, K => K (.lEvent (a ++ b))
  | .iDevice a, .iDevice b, K => K (.iDevice (a ++ b))
  | .iVcpu a, .iVcpu b, K => K (.iVcpu (a ++ b))
  | .lVcpu a, .lVcpu b, K => K (.lVcpu (a ++ b))
  | .lRtTask a, .lRtTask b, K => K (.lRtTask (a ++ b))
  | .iFirmTable a, .iFirmTable b, K => K (.iFirmTable (a ++ b))
  | .lFirmTable a, .lFirmTable b, K => K (.lFirmTable (a ++ b))
  | .iKeySlot a, .iKeySlot b, K => K (.iKeySlot (a ++ b))
  | .lDevice a, .lDevice b, K => K (.lDevice (a ++ b))
  | .lKeySlot a, .lKeySlot b, K => K (.lKeySlot (a ++ b))
  | _, _, _ => none
def B.mkK (t : TypeId) (ls : List (List SV)) (K : B → Option α) : Option α := cond (Nat.beq t 2) (rtMk ri64 ls fun l => K (.i64 l)) (cond (Nat.beq t 5) (rtMk ru8 ls fun l => K (.u8 l)) (cond (Nat.beq t 9) (rtMk rstr ls fun l => K (.str l)) (cond (Nat.beq t 72) (rtMk riRtTask ls fun l => K (.iRtTask l)) (cond (Nat.beq t 110) (rtMk riEvent ls fun l => K (.iEvent l)) (cond (Nat.beq t 112) (rtMk rlEvent ls fun l => K (.lEvent l)) (cond (Nat.beq t 116) (rtMk riDevice ls fun l => K (.iDevice l)) (cond (Nat.beq t 120) (rtMk riVcpu ls fun l => K (.iVcpu l)) (cond (Nat.beq t 123) (rtMk rlVcpu ls fun l => K (.lVcpu l)) (cond (Nat.beq t 126) (rtMk rlRtTask ls fun l => K (.lRtTask l)) (cond (Nat.beq t 139) (rtMk riFirmTable ls fun l => K (.iFirmTable l)) (cond (Nat.beq t 144) (rtMk rlFirmTable ls fun l => K (.lFirmTable l)) (cond (Nat.beq t 159) (rtMk riKeySlot ls fun l => K (.iKeySlot l)) (cond (Nat.beq t 169) (rtMk rlDevice ls fun l => K (.lDevice l)) (cond (Nat.beq t 180) (rtMk rlKeySlot ls fun l => K (.lKeySlot l)) (none)))))))))))))))
def B.zeroK (t : TypeId) (n : Nat) (K : B → Option α) : Option α := cond (Nat.beq t 2) (K (.i64 (List.replicate n 0))) (cond (Nat.beq t 5) (K (.u8 (List.replicate n 0))) (cond (Nat.beq t 9) (K (.str (List.replicate n ⟨#[]⟩))) (cond (Nat.beq t 72) (K (.iRtTask (List.replicate n ⟨0, 0, 0⟩))) (cond (Nat.beq t 110) (K (.iEvent (List.replicate n ⟨0, 0, 0, 0⟩))) (cond (Nat.beq t 112) (K (.lEvent (List.replicate n ⟨0, 0, 0, 0⟩))) (cond (Nat.beq t 116) (K (.iDevice (List.replicate n ⟨0, 0, 0⟩))) (cond (Nat.beq t 120) (K (.iVcpu (List.replicate n ⟨0, 0, 0, 0, false, 0, 0, 0, 0⟩))) (cond (Nat.beq t 123) (K (.lVcpu (List.replicate n ⟨0, 0, 0, 0, false, 0, 0, 0, 0⟩))) (cond (Nat.beq t 126) (K (.lRtTask (List.replicate n ⟨0, 0, 0⟩))) (cond (Nat.beq t 139) (K (.iFirmTable (List.replicate n ⟨⟨#[]⟩, 0, ⟨#[]⟩⟩))) (cond (Nat.beq t 144) (K (.lFirmTable (List.replicate n ⟨⟨#[]⟩, 0, ⟨#[]⟩⟩))) (cond (Nat.beq t 159) (K (.iKeySlot (List.replicate n ⟨0, ⟨#[]⟩, ⟨#[]⟩⟩))) (cond (Nat.beq t 169) (K (.lDevice (List.replicate n ⟨0, 0, 0⟩))) (cond (Nat.beq t 180) (K (.lKeySlot (List.replicate n ⟨0, ⟨#[]⟩, ⟨#[]⟩⟩))) (none)))))))))))))))
def B.subK : B → Nat → Nat → (B → Option α) → Option α
  | .i64 l, i, n, K => rtSub l i n fun l => K (.i64 l)
  | .u8 l, i, n, K => rtSub l i n fun l => K (.u8 l)
  | .str l, i, n, K => rtSub l i n fun l => K (.str l)
  | .iRtTask l, i, n, K => rtSub l i n fun l => K (.iRtTask l)
  | .iEvent l, i, n, K => rtSub l i n fun l => K (.iEvent l)
  | .lEvent l, i, n, K => rtSub l i n fun l => K (.lEvent l)
  | .iDevice l, i, n, K => rtSub l i n fun l => K (.iDevice l)
  | .iVcpu l, i, n, K => rtSub l i n fun l => K (.iVcpu l)
  | .lVcpu l, i, n, K => rtSub l i n fun l => K (.lVcpu l)
  | .lRtTask l, i, n, K => rtSub l i n fun l => K (.lRtTask l)
  | .iFirmTable l, i, n, K => rtSub l i n fun l => K (.iFirmTable l)
  | .lFirmTable l, i, n, K => rtSub l i n fun l => K (.lFirmTable l)
  | .iKeySlot l, i, n, K => rtSub l i n fun l => K (.iKeySlot l)
  | .lDevice l, i, n, K => rtSub l i n fun l => K (.lDevice l)
  | .lKeySlot l, i, n, K => rtSub l i n fun l => K (.lKeySlot l)
def B.ovK : B → Nat → B → (B → Option α) → Option α
  | .i64 a, i, .i64 b, K => rtOv a i b fun l => K (.i64 l)
  | .u8 a, i, .u8 b, K => rtOv a i b fun l => K (.u8 l)
  | .str a, i, .str b, K => rtOv a i b fun l => K (.str l)
  | .iRtTask a, i, .iRtTask b, K => rtOv a i b fun l => K (.iRtTask l)
  | .iEvent a, i, .iEvent b, K => rtOv a i b fun l => K (.iEvent l)
  | .lEvent a, i, .lEvent b, K => rtOv a i b fun l => K (.lEvent l)
  | .iDevice a, i, .iDevice b, K => rtOv a i b fun l => K (.iDevice l)
  | .iVcpu a, i, .iVcpu b, K => rtOv a i b fun l => K (.iVcpu l)
  | .lVcpu a, i, .lVcpu b, K => rtOv a i b fun l => K (.lVcpu l)
  | .lRtTask a, i, .lRtTask b, K => rtOv a i b fun l => K (.lRtTask l)
  | .iFirmTable a, i, .iFirmTable b, K => rtOv a i b fun l => K (.iFirmTable l)
  | .lFirmTable a, i, .lFirmTable b, K => rtOv a i b fun l => K (.lFirmTable l)
  | .iKeySlot a, i, .iKeySlot b, K => rtOv a i b fun l => K (.iKeySlot l)
  | .lDevice a, i, .lDevice b, K => rtOv a i b fun l => K (.lDevice l)
  | .lKeySlot a, i, .lKeySlot b, K => rtOv a i b fun l => K (.lKeySlot l)
  | _, _, _, _ => none
def B.strK : B → Nat → Nat → (ByteArray → Option α) → Option α
  | .u8 l, i, n, K => cond (Nat.ble (i + n) l.length) (K (toBytes (seg l i n))) none
  | _, _, _, _ => none
def B.bytesK (t : TypeId) (s : ByteArray) (K : B → Option α) : Option α := cond (Nat.beq t 5) (K (.u8 (ofBytes s))) (none)
end
noncomputable def E : Env where
  P := Try.prog
  B := B
  elt := B.elt
  sz := B.sz
  cells := B.cells
  len := B.len
  rowK := B.rowK
  setK := B.setK
  appK := B.appK
  mkK := B.mkK
  zeroK := B.zeroK
  subK := B.subK
  strK := B.strK
  bytesK := B.bytesK
  ovK := B.ovK
  ty := fun t => tabLook t tab
  named := fun t => Nat.beq t 190
  wide := fun f => [9, 11, 13, 41, 42, 43, 50, 51, 60, 63, 64, 94, 95, 96, 99, 119, 122, 160, 163, 167, 168].any (Nat.beq f)

theorem ri64_ok : RTOk Try.prog ri64 := rtInt_ok ⟨Try.t2, by kernel_rfl, by kernel_rfl⟩
theorem ru8_ok : RTOk Try.prog ru8 := rtInt_ok ⟨Try.t5, by kernel_rfl, by kernel_rfl⟩
theorem rstr_ok : RTOk Try.prog rstr := rtStr_ok ⟨Try.t9, by kernel_rfl, by kernel_rfl⟩
theorem riRtTask_ok : RTOk Try.prog riRtTask := tiRtTask_ok _ ⟨Try.t72, by kernel_rfl, by kernel_rfl⟩
theorem riEvent_ok : RTOk Try.prog riEvent := tiEvent_ok _ ⟨Try.t110, by kernel_rfl, by kernel_rfl⟩
theorem rlEvent_ok : RTOk Try.prog rlEvent := tlEvent_ok _ ⟨Try.t112, by kernel_rfl, by kernel_rfl⟩
theorem riDevice_ok : RTOk Try.prog riDevice := tiDevice_ok _ ⟨Try.t116, by kernel_rfl, by kernel_rfl⟩
theorem riVcpu_ok : RTOk Try.prog riVcpu := tiVcpu_ok _ ⟨Try.t120, by kernel_rfl, by kernel_rfl⟩
theorem rlVcpu_ok : RTOk Try.prog rlVcpu := tlVcpu_ok _ ⟨Try.t123, by kernel_rfl, by kernel_rfl⟩
theorem rlRtTask_ok : RTOk Try.prog rlRtTask := tlRtTask_ok _ ⟨Try.t126, by kernel_rfl, by kernel_rfl⟩
theorem riFirmTable_ok : RTOk Try.prog riFirmTable := tiFirmTable_ok _ ⟨Try.t139, by kernel_rfl, by kernel_rfl⟩
theorem rlFirmTable_ok : RTOk Try.prog rlFirmTable := tlFirmTable_ok _ ⟨Try.t144, by kernel_rfl, by kernel_rfl⟩
theorem riKeySlot_ok : RTOk Try.prog riKeySlot := tiKeySlot_ok _ ⟨Try.t159, by kernel_rfl, by kernel_rfl⟩
theorem rlDevice_ok : RTOk Try.prog rlDevice := tlDevice_ok _ ⟨Try.t169, by kernel_rfl, by kernel_rfl⟩
theorem rlKeySlot_ok : RTOk Try.prog rlKeySlot := tlKeySlot_ok _ ⟨Try.t180, by kernel_rfl, by kernel_rfl⟩
section
variable {α : Type}
theorem B.rowK_ok {b : B} {n : Nat} {K : List SV → Option α} {r : α} (h : b.rowK n K = some r) : ∃ l, K l = some r ∧ l.length = b.sz ∧ n < b.len ∧ l = seg b.cells (n * b.sz) b.sz := by
  cases b
  · exact rtRow_ok ri64_ok h
  · exact rtRow_ok ru8_ok h
  · exact rtRow_ok rstr_ok h
  · exact rtRow_ok riRtTask_ok h
  · exact rtRow_ok riEvent_ok h
  · exact rtRow_ok rlEvent_ok h
  · exact rtRow_ok riDevice_ok h
  · exact rtRow_ok riVcpu_ok h
  · exact rtRow_ok rlVcpu_ok h
  · exact rtRow_ok rlRtTask_ok h
  · exact rtRow_ok riFirmTable_ok h
  · exact rtRow_ok rlFirmTable_ok h
  · exact rtRow_ok riKeySlot_ok h
  · exact rtRow_ok rlDevice_ok h
  · exact rtRow_ok rlKeySlot_ok h
theorem B.setK_ok {b : B} {n : Nat} {l : List SV} {K : B → Option α} {r : α} (h : b.setK n l K = some r) : ∃ b', K b' = some r ∧ b'.elt = b.elt ∧ b'.sz = b.sz ∧ b'.len = b.len ∧ l.length = b.sz ∧ n < b.len ∧ b'.cells = splice b.cells (n * b.sz) l := by
  cases b
  · unfold B.setK at h
    obtain ⟨ys, hK, h1, h2, h3, h4⟩ := rtSet_ok ri64_ok h
    exact ⟨.i64 ys, hK, rfl, rfl, h1, h2, h3, h4⟩
  · unfold B.setK at h
    obtain ⟨ys, hK, h1, h2, h3, h4⟩ := rtSet_ok ru8_ok h
    exact ⟨.u8 ys, hK, rfl, rfl, h1, h2, h3, h4⟩
  · unfold B.setK at h
    obtain ⟨ys, hK, h1, h2, h3, h4⟩ := rtSet_ok rstr_ok h
    exact ⟨.str ys, hK, rfl, rfl, h1, h2, h3, h4⟩
  · unfold B.setK at h
    obtain ⟨ys, hK, h1, h2, h3, h4⟩ := rtSet_ok riRtTask_ok h
    exact ⟨.iRtTask ys, hK, rfl, rfl, h1, h2, h3, h4⟩
  · unfold B.setK at h
    obtain ⟨ys, hK, h1, h2, h3, h4⟩ := rtSet_ok riEvent_ok h
    exact ⟨.iEvent ys, hK, rfl, rfl, h1, h2, h3, h4⟩
  · unfold B.setK at h
    obtain ⟨ys, hK, h1, h2, h3, h4⟩ := rtSet_ok rlEvent_ok h
    exact ⟨.lEvent ys, hK, rfl, rfl, h1, h2, h3, h4⟩
  · unfold B.setK at h
    obtain ⟨ys, hK, h1, h2, h3, h4⟩ := rtSet_ok riDevice_ok h
    exact ⟨.iDevice ys, hK, rfl, rfl, h1, h2, h3, h4⟩
  · unfold B.setK at h
    obtain ⟨ys, hK, h1, h2, h3, h4⟩ := rtSet_ok riVcpu_ok h
    exact ⟨.iVcpu ys, hK, rfl, rfl, h1, h2, h3, h4⟩
  · unfold B.setK at h
    obtain ⟨ys, hK, h1, h2, h3, h4⟩ := rtSet_ok rlVcpu_ok h
    exact ⟨.lVcpu ys, hK, rfl, rfl, h1, h2, h3, h4⟩
  · unfold B.setK at h
    obtain ⟨ys, hK, h1, h2, h3, h4⟩ := rtSet_ok rlRtTask_ok h
    exact ⟨.lRtTask ys, hK, rfl, rfl, h1, h2, h3, h4⟩
  · unfold B.setK at h
    obtain ⟨ys, hK, h1, h2, h3, h4⟩ := rtSet_ok riFirmTable_ok h
    exact ⟨.iFirmTable ys, hK, rfl, rfl, h1, h2, h3, h4⟩
  · unfold B.setK at h
    obtain ⟨ys, hK, h1, h2, h3, h4⟩ := rtSet_ok rlFirmTable_ok h
    exact ⟨.lFirmTable ys, hK, rfl, rfl, h1, h2, h3, h4⟩
  · unfold B.setK at h
    obtain ⟨ys, hK, h1, h2, h3, h4⟩ := rtSet_ok riKeySlot_ok h
    exact ⟨.iKeySlot ys, hK, rfl, rfl, h1, h2, h3, h4⟩
  · unfold B.setK at h
    obtain ⟨ys, hK, h1, h2, h3, h4⟩ := rtSet_ok rlDevice_ok h
    exact ⟨.lDevice ys, hK, rfl, rfl, h1, h2, h3, h4⟩
  · unfold B.setK at h
    obtain ⟨ys, hK, h1, h2, h3, h4⟩ := rtSet_ok rlKeySlot_ok h
    exact ⟨.lKeySlot ys, hK, rfl, rfl, h1, h2, h3, h4⟩
theorem B.appK_ok {a b : B} {K : B → Option α} {r : α} (h : a.appK b K = some r) : ∃ c, K c = some r ∧ c.elt = a.elt ∧ c.sz = a.sz ∧ b.sz = a.sz ∧ c.len = a.len + b.len ∧ c.cells = a.cells ++ b.cells := by
  cases a <;> cases b <;> first | (unfold B.appK at h; cases h; done) | exact ⟨_, h, rfl, rfl, rfl, List.length_append, rtCells_append _ _ _⟩
theorem B.mkK_ok {t : TypeId} {ls : List (List SV)} {K : B → Option α} {r : α} (h : B.mkK t ls K = some r) : ∃ b, K b = some r ∧ b.elt = t ∧ b.len = ls.length ∧ b.cells = ls.flatten ∧ ∀ l ∈ ls, l.length = b.sz := by
  unfold B.mkK at h
  rcases cond_some h with ⟨e0, h0⟩ | ⟨_, h0⟩
  · obtain ⟨xs, hK, h1, h2, h3⟩ := rtMk_ok ri64_ok h0
    exact ⟨_, hK, (Nat.eq_of_beq_eq_true e0).symm, h1, h2, h3⟩
  rcases cond_some h0 with ⟨e1, h1⟩ | ⟨_, h1⟩
  · obtain ⟨xs, hK, h1, h2, h3⟩ := rtMk_ok ru8_ok h1
    exact ⟨_, hK, (Nat.eq_of_beq_eq_true e1).symm, h1, h2, h3⟩
  rcases cond_some h1 with ⟨e2, h2⟩ | ⟨_, h2⟩
  · obtain ⟨xs, hK, h1, h2, h3⟩ := rtMk_ok rstr_ok h2
    exact ⟨_, hK, (Nat.eq_of_beq_eq_true e2).symm, h1, h2, h3⟩
  rcases cond_some h2 with ⟨e3, h3⟩ | ⟨_, h3⟩
  · obtain ⟨xs, hK, h1, h2, h3⟩ := rtMk_ok riRtTask_ok h3
    exact ⟨_, hK, (Nat.eq_of_beq_eq_true e3).symm, h1, h2, h3⟩
  rcases cond_some h3 with ⟨e4, h4⟩ | ⟨_, h4⟩
  · obtain ⟨xs, hK, h1, h2, h3⟩ := rtMk_ok riEvent_ok h4
    exact ⟨_, hK, (Nat.eq_of_beq_eq_true e4).symm, h1, h2, h3⟩
  rcases cond_some h4 with ⟨e5, h5⟩ | ⟨_, h5⟩
  · obtain ⟨xs, hK, h1, h2, h3⟩ := rtMk_ok rlEvent_ok h5
    exact ⟨_, hK, (Nat.eq_of_beq_eq_true e5).symm, h1, h2, h3⟩
  rcases cond_some h5 with ⟨e6, h6⟩ | ⟨_, h6⟩
  · obtain ⟨xs, hK, h1, h2, h3⟩ := rtMk_ok riDevice_ok h6
    exact ⟨_, hK, (Nat.eq_of_beq_eq_true e6).symm, h1, h2, h3⟩
  rcases cond_some h6 with ⟨e7, h7⟩ | ⟨_, h7⟩
  · obtain ⟨xs, hK, h1, h2, h3⟩ := rtMk_ok riVcpu_ok h7
    exact ⟨_, hK, (Nat.eq_of_beq_eq_true e7).symm, h1, h2, h3⟩
  rcases cond_some h7 with ⟨e8, h8⟩ | ⟨_, h8⟩
  · obtain ⟨xs, hK, h1, h2, h3⟩ := rtMk_ok rlVcpu_ok h8
    exact ⟨_, hK, (Nat.eq_of_beq_eq_true e8).symm, h1, h2, h3⟩
  rcases cond_some h8 with ⟨e9, h9⟩ | ⟨_, h9⟩
  · obtain ⟨xs, hK, h1, h2, h3⟩ := rtMk_ok rlRtTask_ok h9
    exact ⟨_, hK, (Nat.eq_of_beq_eq_true e9).symm, h1, h2, h3⟩
  rcases cond_some h9 with ⟨e10, h10⟩ | ⟨_, h10⟩
  · obtain ⟨xs, hK, h1, h2, h3⟩ := rtMk_ok riFirmTable_ok h10
    exact ⟨_, hK, (Nat.eq_of_beq_eq_true e10).symm, h1, h2, h3⟩
  rcases cond_some h10 with ⟨e11, h11⟩ | ⟨_, h11⟩
  · obtain ⟨xs, hK, h1, h2, h3⟩ := rtMk_ok rlFirmTable_ok h11
    exact ⟨_, hK, (Nat.eq_of_beq_eq_true e11).symm, h1, h2, h3⟩
  rcases cond_some h11 with ⟨e12, h12⟩ | ⟨_, h12⟩
  · obtain ⟨xs, hK, h1, h2, h3⟩ := rtMk_ok riKeySlot_ok h12
    exact ⟨_, hK, (Nat.eq_of_beq_eq_true e12).symm, h1, h2, h3⟩
  rcases cond_some h12 with ⟨e13, h13⟩ | ⟨_, h13⟩
  · obtain ⟨xs, hK, h1, h2, h3⟩ := rtMk_ok rlDevice_ok h13
    exact ⟨_, hK, (Nat.eq_of_beq_eq_true e13).symm, h1, h2, h3⟩
  rcases cond_some h13 with ⟨e14, h14⟩ | ⟨_, h14⟩
  · obtain ⟨xs, hK, h1, h2, h3⟩ := rtMk_ok rlKeySlot_ok h14
    exact ⟨_, hK, (Nat.eq_of_beq_eq_true e14).symm, h1, h2, h3⟩
  cases h14
theorem B.zeroK_ok {t : TypeId} {n : Nat} {K : B → Option α} {r : α} (h : B.zeroK t n K = some r) : ∃ b, K b = some r ∧ b.elt = t ∧ b.len = n ∧ ∃ ti z, tabLook t tab = some ti ∧ ti.zero = z.map .v ∧ z.length = b.sz ∧ b.cells = (List.replicate n z).flatten := by
  unfold B.zeroK at h
  rcases cond_some h with ⟨e0, h0⟩ | ⟨_, h0⟩
  · have e := Nat.eq_of_beq_eq_true e0
    subst e
    exact ⟨_, h0, rfl, List.length_replicate, _, [.int .i64 0], rfl, rfl, rfl, rtCells_replicate _ _ _⟩
  rcases cond_some h0 with ⟨e1, h1⟩ | ⟨_, h1⟩
  · have e := Nat.eq_of_beq_eq_true e1
    subst e
    exact ⟨_, h1, rfl, List.length_replicate, _, [.int .u8 0], rfl, rfl, rfl, rtCells_replicate _ _ _⟩
  rcases cond_some h1 with ⟨e2, h2⟩ | ⟨_, h2⟩
  · have e := Nat.eq_of_beq_eq_true e2
    subst e
    exact ⟨_, h2, rfl, List.length_replicate, _, [.str ⟨#[]⟩], rfl, rfl, rfl, rtCells_replicate _ _ _⟩
  rcases cond_some h2 with ⟨e3, h3⟩ | ⟨_, h3⟩
  · have e := Nat.eq_of_beq_eq_true e3
    subst e
    exact ⟨_, h3, rfl, List.length_replicate, _, [.int .i64 0, .int .i64 0, .int .i64 0], rfl, rfl, rfl, rtCells_replicate _ _ _⟩
  rcases cond_some h3 with ⟨e4, h4⟩ | ⟨_, h4⟩
  · have e := Nat.eq_of_beq_eq_true e4
    subst e
    exact ⟨_, h4, rfl, List.length_replicate, _, [.int .i64 0, .int .i64 0, .int .i64 0, .int .i64 0], rfl, rfl, rfl, rtCells_replicate _ _ _⟩
  rcases cond_some h4 with ⟨e5, h5⟩ | ⟨_, h5⟩
  · have e := Nat.eq_of_beq_eq_true e5
    subst e
    exact ⟨_, h5, rfl, List.length_replicate, _, [.int .i64 0, .int .i64 0, .int .i64 0, .int .i64 0], rfl, rfl, rfl, rtCells_replicate _ _ _⟩
  rcases cond_some h5 with ⟨e6, h6⟩ | ⟨_, h6⟩
  · have e := Nat.eq_of_beq_eq_true e6
    subst e
    exact ⟨_, h6, rfl, List.length_replicate, _, [.int .i64 0, .int .i64 0, .int .i64 0], rfl, rfl, rfl, rtCells_replicate _ _ _⟩
  rcases cond_some h6 with ⟨e7, h7⟩ | ⟨_, h7⟩
  · have e := Nat.eq_of_beq_eq_true e7
    subst e
    exact ⟨_, h7, rfl, List.length_replicate, _, [.int .i64 0, .int .i64 0, .int .i64 0, .int .i64 0, .bool false, .int .i64 0, .int .i64 0, .int .i64 0, .int .i64 0], rfl, rfl, rfl, rtCells_replicate _ _ _⟩
  rcases cond_some h7 with ⟨e8, h8⟩ | ⟨_, h8⟩
  · have e := Nat.eq_of_beq_eq_true e8
    subst e
    exact ⟨_, h8, rfl, List.length_replicate, _, [.int .i64 0, .int .i64 0, .int .i64 0, .int .i64 0, .bool false, .int .i64 0, .int .i64 0, .int .i64 0, .int .i64 0], rfl, rfl, rfl, rtCells_replicate _ _ _⟩
  rcases cond_some h8 with ⟨e9, h9⟩ | ⟨_, h9⟩
  · have e := Nat.eq_of_beq_eq_true e9
    subst e
    exact ⟨_, h9, rfl, List.length_replicate, _, [.int .i64 0, .int .i64 0, .int .i64 0], rfl, rfl, rfl, rtCells_replicate _ _ _⟩
  rcases cond_some h9 with ⟨e10, h10⟩ | ⟨_, h10⟩
  · have e := Nat.eq_of_beq_eq_true e10
    subst e
    exact ⟨_, h10, rfl, List.length_replicate, _, [.str ⟨#[]⟩, .int .i64 0, .str ⟨#[]⟩], rfl, rfl, rfl, rtCells_replicate _ _ _⟩
  rcases cond_some h10 with ⟨e11, h11⟩ | ⟨_, h11⟩
  · have e := Nat.eq_of_beq_eq_true e11
    subst e
    exact ⟨_, h11, rfl, List.length_replicate, _, [.str ⟨#[]⟩, .int .i64 0, .str ⟨#[]⟩], rfl, rfl, rfl, rtCells_replicate _ _ _⟩
  rcases cond_some h11 with ⟨e12, h12⟩ | ⟨_, h12⟩
  · have e := Nat.eq_of_beq_eq_true e12
    subst e
    exact ⟨_, h12, rfl, List.length_replicate, _, [.int .i64 0, .str ⟨#[]⟩, .str ⟨#[]⟩], rfl, rfl, rfl, rtCells_replicate _ _ _⟩
  rcases cond_some h12 with ⟨e13, h13⟩ | ⟨_, h13⟩
  · have e := Nat.eq_of_beq_eq_true e13
    subst e
    exact ⟨_, h13, rfl, List.length_replicate, _, [.int .i64 0, .int .i64 0, .int .i64 0], rfl, rfl, rfl, rtCells_replicate _ _ _⟩
  rcases cond_some h13 with ⟨e14, h14⟩ | ⟨_, h14⟩
  · have e := Nat.eq_of_beq_eq_true e14
    subst e
    exact ⟨_, h14, rfl, List.length_replicate, _, [.int .i64 0, .str ⟨#[]⟩, .str ⟨#[]⟩], rfl, rfl, rfl, rtCells_replicate _ _ _⟩
  cases h14
theorem B.subK_ok {b : B} {i n : Nat} {K : B → Option α} {r : α} (h : b.subK i n K = some r) : ∃ b', K b' = some r ∧ b'.elt = b.elt ∧ b'.sz = b.sz ∧ b'.len = n ∧ i + n ≤ b.len ∧ b'.cells = seg b.cells (i * b.sz) (n * b.sz) := by
  cases b
  · unfold B.subK at h
    obtain ⟨ys, hK, h1, h2, h3⟩ := rtSub_ok ri64_ok h
    exact ⟨.i64 ys, hK, rfl, rfl, h1, h2, h3⟩
  · unfold B.subK at h
    obtain ⟨ys, hK, h1, h2, h3⟩ := rtSub_ok ru8_ok h
    exact ⟨.u8 ys, hK, rfl, rfl, h1, h2, h3⟩
  · unfold B.subK at h
    obtain ⟨ys, hK, h1, h2, h3⟩ := rtSub_ok rstr_ok h
    exact ⟨.str ys, hK, rfl, rfl, h1, h2, h3⟩
  · unfold B.subK at h
    obtain ⟨ys, hK, h1, h2, h3⟩ := rtSub_ok riRtTask_ok h
    exact ⟨.iRtTask ys, hK, rfl, rfl, h1, h2, h3⟩
  · unfold B.subK at h
    obtain ⟨ys, hK, h1, h2, h3⟩ := rtSub_ok riEvent_ok h
    exact ⟨.iEvent ys, hK, rfl, rfl, h1, h2, h3⟩
  · unfold B.subK at h
    obtain ⟨ys, hK, h1, h2, h3⟩ := rtSub_ok rlEvent_ok h
    exact ⟨.lEvent ys, hK, rfl, rfl, h1, h2, h3⟩
  · unfold B.subK at h
    obtain ⟨ys, hK, h1, h2, h3⟩ := rtSub_ok riDevice_ok h
    exact ⟨.iDevice ys, hK, rfl, rfl, h1, h2, h3⟩
  · unfold B.subK at h
    obtain ⟨ys, hK, h1, h2, h3⟩ := rtSub_ok riVcpu_ok h
    exact ⟨.iVcpu ys, hK, rfl, rfl, h1, h2, h3⟩
  · unfold B.subK at h
    obtain ⟨ys, hK, h1, h2, h3⟩ := rtSub_ok rlVcpu_ok h
    exact ⟨.lVcpu ys, hK, rfl, rfl, h1, h2, h3⟩
  · unfold B.subK at h
    obtain ⟨ys, hK, h1, h2, h3⟩ := rtSub_ok rlRtTask_ok h
    exact ⟨.lRtTask ys, hK, rfl, rfl, h1, h2, h3⟩
  · unfold B.subK at h
    obtain ⟨ys, hK, h1, h2, h3⟩ := rtSub_ok riFirmTable_ok h
    exact ⟨.iFirmTable ys, hK, rfl, rfl, h1, h2, h3⟩
  · unfold B.subK at h
    obtain ⟨ys, hK, h1, h2, h3⟩ := rtSub_ok rlFirmTable_ok h
    exact ⟨.lFirmTable ys, hK, rfl, rfl, h1, h2, h3⟩
  · unfold B.subK at h
    obtain ⟨ys, hK, h1, h2, h3⟩ := rtSub_ok riKeySlot_ok h
    exact ⟨.iKeySlot ys, hK, rfl, rfl, h1, h2, h3⟩
  · unfold B.subK at h
    obtain ⟨ys, hK, h1, h2, h3⟩ := rtSub_ok rlDevice_ok h
    exact ⟨.lDevice ys, hK, rfl, rfl, h1, h2, h3⟩
  · unfold B.subK at h
    obtain ⟨ys, hK, h1, h2, h3⟩ := rtSub_ok rlKeySlot_ok h
    exact ⟨.lKeySlot ys, hK, rfl, rfl, h1, h2, h3⟩
theorem B.ovK_ok {a b : B} {i : Nat} {K : B → Option α} {r : α} (h : a.ovK i b K = some r) : ∃ a', K a' = some r ∧ a'.elt = a.elt ∧ a'.sz = a.sz ∧ a'.len = a.len ∧ b.sz = a.sz ∧ i + b.len ≤ a.len ∧ a'.cells = splice a.cells (i * a.sz) b.cells := by
  cases a <;> cases b <;> first | (unfold B.ovK at h; cases h; done) | skip
  · unfold B.ovK at h
    obtain ⟨ys, hK, h1, h2, h3⟩ := rtOv_ok ri64_ok h
    exact ⟨.i64 ys, hK, rfl, rfl, h1, rfl, h2, h3⟩
  · unfold B.ovK at h
    obtain ⟨ys, hK, h1, h2, h3⟩ := rtOv_ok ru8_ok h
    exact ⟨.u8 ys, hK, rfl, rfl, h1, rfl, h2, h3⟩
  · unfold B.ovK at h
    obtain ⟨ys, hK, h1, h2, h3⟩ := rtOv_ok rstr_ok h
    exact ⟨.str ys, hK, rfl, rfl, h1, rfl, h2, h3⟩
  · unfold B.ovK at h
    obtain ⟨ys, hK, h1, h2, h3⟩ := rtOv_ok riRtTask_ok h
    exact ⟨.iRtTask ys, hK, rfl, rfl, h1, rfl, h2, h3⟩
  · unfold B.ovK at h
    obtain ⟨ys, hK, h1, h2, h3⟩ := rtOv_ok riEvent_ok h
    exact ⟨.iEvent ys, hK, rfl, rfl, h1, rfl, h2, h3⟩
  · unfold B.ovK at h
    obtain ⟨ys, hK, h1, h2, h3⟩ := rtOv_ok rlEvent_ok h
    exact ⟨.lEvent ys, hK, rfl, rfl, h1, rfl, h2, h3⟩
  · unfold B.ovK at h
    obtain ⟨ys, hK, h1, h2, h3⟩ := rtOv_ok riDevice_ok h
    exact ⟨.iDevice ys, hK, rfl, rfl, h1, rfl, h2, h3⟩
  · unfold B.ovK at h
    obtain ⟨ys, hK, h1, h2, h3⟩ := rtOv_ok riVcpu_ok h
    exact ⟨.iVcpu ys, hK, rfl, rfl, h1, rfl, h2, h3⟩
  · unfold B.ovK at h
    obtain ⟨ys, hK, h1, h2, h3⟩ := rtOv_ok rlVcpu_ok h
    exact ⟨.lVcpu ys, hK, rfl, rfl, h1, rfl, h2, h3⟩
  · unfold B.ovK at h
    obtain ⟨ys, hK, h1, h2, h3⟩ := rtOv_ok rlRtTask_ok h
    exact ⟨.lRtTask ys, hK, rfl, rfl, h1, rfl, h2, h3⟩
  · unfold B.ovK at h
    obtain ⟨ys, hK, h1, h2, h3⟩ := rtOv_ok riFirmTable_ok h
    exact ⟨.iFirmTable ys, hK, rfl, rfl, h1, rfl, h2, h3⟩
  · unfold B.ovK at h
    obtain ⟨ys, hK, h1, h2, h3⟩ := rtOv_ok rlFirmTable_ok h
    exact ⟨.lFirmTable ys, hK, rfl, rfl, h1, rfl, h2, h3⟩
  · unfold B.ovK at h
    obtain ⟨ys, hK, h1, h2, h3⟩ := rtOv_ok riKeySlot_ok h
    exact ⟨.iKeySlot ys, hK, rfl, rfl, h1, rfl, h2, h3⟩
  · unfold B.ovK at h
    obtain ⟨ys, hK, h1, h2, h3⟩ := rtOv_ok rlDevice_ok h
    exact ⟨.lDevice ys, hK, rfl, rfl, h1, rfl, h2, h3⟩
  · unfold B.ovK at h
    obtain ⟨ys, hK, h1, h2, h3⟩ := rtOv_ok rlKeySlot_ok h
    exact ⟨.lKeySlot ys, hK, rfl, rfl, h1, rfl, h2, h3⟩
theorem B.strK_ok {b : B} {i n : Nat} {K : ByteArray → Option α} {r : α} (h : b.strK i n K = some r) : ∃ ns : List Int, K ⟨(ns.map fun x => UInt8.ofNat x.toNat).toArray⟩ = some r ∧ b.sz = 1 ∧ i + n ≤ b.len ∧ ns.length = n ∧ seg b.cells i n = ns.map (.int .u8 ·) := by
  cases b
  · cases h
  · unfold B.strK at h
    obtain ⟨hn, hK⟩ := cond_none_right h
    have hn := Nat.le_of_ble_eq_true hn
    refine ⟨seg _ i n, hK, rfl, hn, seg_length _ _ _ hn, ?_⟩
    have h1 := rtCells_seg ru8_ok ‹_› i n
    simp only [rtInt, Nat.mul_one] at h1
    exact h1.symm.trans (rtInt_map _ _ _)
  · cases h
  · cases h
  · cases h
  · cases h
  · cases h
  · cases h
  · cases h
  · cases h
  · cases h
  · cases h
  · cases h
  · cases h
  · cases h
theorem B.bytesK_ok {t : TypeId} {s : ByteArray} {K : B → Option α} {r : α} (h : B.bytesK t s K = some r) : ∃ b, K b = some r ∧ b.elt = t ∧ b.sz = 1 ∧ b.len = s.size ∧ b.cells = s.data.toList.map fun c => .int .u8 (c.toNat : Int) := by
  unfold B.bytesK at h
  rcases cond_some h with ⟨e0, h0⟩ | ⟨_, h0⟩
  · refine ⟨_, h0, (Nat.eq_of_beq_eq_true e0).symm, rfl, (List.length_map _).trans Array.length_toList, (rtInt_map _ _ _).trans ?_⟩
    unfold ofBytes
    rw [List.map_map]
    rfl
  cases h0
end
theorem B.cells_len (b : B) : b.cells.length = b.len * b.sz := by
  cases b
  · exact rtCells_length ri64_ok _
  · exact rtCells_length ru8_ok _
  · exact rtCells_length rstr_ok _
  · exact rtCells_length riRtTask_ok _
  · exact rtCells_length riEvent_ok _
  · exact rtCells_length rlEvent_ok _
  · exact rtCells_length riDevice_ok _
  · exact rtCells_length riVcpu_ok _
  · exact rtCells_length rlVcpu_ok _
  · exact rtCells_length rlRtTask_ok _
  · exact rtCells_length riFirmTable_ok _
  · exact rtCells_length rlFirmTable_ok _
  · exact rtCells_length riKeySlot_ok _
  · exact rtCells_length rlDevice_ok _
  · exact rtCells_length rlKeySlot_ok _
theorem B.plain (b : B) : ∀ s ∈ b.cells, s.plain = true := by
  cases b
  · exact rtCells_plain ri64_ok _
  · exact rtCells_plain ru8_ok _
  · exact rtCells_plain rstr_ok _
  · exact rtCells_plain riRtTask_ok _
  · exact rtCells_plain riEvent_ok _
  · exact rtCells_plain rlEvent_ok _
  · exact rtCells_plain riDevice_ok _
  · exact rtCells_plain riVcpu_ok _
  · exact rtCells_plain rlVcpu_ok _
  · exact rtCells_plain rlRtTask_ok _
  · exact rtCells_plain riFirmTable_ok _
  · exact rtCells_plain rlFirmTable_ok _
  · exact rtCells_plain riKeySlot_ok _
  · exact rtCells_plain rlDevice_ok _
  · exact rtCells_plain rlKeySlot_ok _
theorem B.info (b : B) : ∃ inf, E.P.info? b.elt = some inf ∧ inf.size = b.sz ∧ 0 < b.sz := by
  cases b
  · exact ri64_ok.info
  · exact ru8_ok.info
  · exact rstr_ok.info
  · exact riRtTask_ok.info
  · exact riEvent_ok.info
  · exact rlEvent_ok.info
  · exact riDevice_ok.info
  · exact riVcpu_ok.info
  · exact rlVcpu_ok.info
  · exact rlRtTask_ok.info
  · exact riFirmTable_ok.info
  · exact rlFirmTable_ok.info
  · exact riKeySlot_ok.info
  · exact rlDevice_ok.info
  · exact rlKeySlot_ok.info
theorem wi64 : RowOf ri64 [.int .i64] := fun row h => by
  obtain ⟨a0, _, rfl, w0, h0⟩ := ck_int h
  obtain rfl := ck_nil h0
  refine ⟨a0, ⟨rfl, trivial⟩, fun s hs => ?_⟩
  have hs : s ∈ [SV.int .i64 a0] := hs
  simp only [List.mem_cons, List.not_mem_nil, or_false] at hs
  subst hs
  · exact w0
theorem wu8 : RowOf ru8 [.int .u8] := fun row h => by
  obtain ⟨a0, _, rfl, w0, h0⟩ := ck_int h
  obtain rfl := ck_nil h0
  refine ⟨a0, ⟨rfl, trivial⟩, fun s hs => ?_⟩
  have hs : s ∈ [SV.int .u8 a0] := hs
  simp only [List.mem_cons, List.not_mem_nil, or_false] at hs
  subst hs
  · exact w0
theorem wstr : RowOf rstr [.str] := fun row h => by
  obtain ⟨a0, _, rfl, w0, h0⟩ := ck_str h
  obtain rfl := ck_nil h0
  refine ⟨a0, ⟨rfl, trivial⟩, fun s hs => ?_⟩
  have hs : s ∈ [SV.str a0] := hs
  simp only [List.mem_cons, List.not_mem_nil, or_false] at hs
  subst hs
  · exact w0
theorem wiRtTask : RowOf riRtTask [.int .i64, .int .i64, .int .i64] := fun row h => by
  obtain ⟨a0, _, rfl, w0, h0⟩ := ck_int h
  obtain ⟨a1, _, rfl, w1, h1⟩ := ck_int h0
  obtain ⟨a2, _, rfl, w2, h2⟩ := ck_int h1
  obtain rfl := ck_nil h2
  refine ⟨⟨a0, a1, a2⟩, ⟨rfl, rfl, rfl, trivial⟩, fun s hs => ?_⟩
  have hs : s ∈ [SV.int .i64 a0, SV.int .i64 a1, SV.int .i64 a2] := hs
  simp only [List.mem_cons, List.not_mem_nil, or_false] at hs
  rcases hs with rfl | rfl | rfl
  · exact w0
  · exact w1
  · exact w2
theorem wiEvent : RowOf riEvent [.int .i64, .int .i64, .int .i64, .int .i64] := fun row h => by
  obtain ⟨a0, _, rfl, w0, h0⟩ := ck_int h
  obtain ⟨a1, _, rfl, w1, h1⟩ := ck_int h0
  obtain ⟨a2, _, rfl, w2, h2⟩ := ck_int h1
  obtain ⟨a3, _, rfl, w3, h3⟩ := ck_int h2
  obtain rfl := ck_nil h3
  refine ⟨⟨a0, a1, a2, a3⟩, ⟨rfl, rfl, rfl, rfl, trivial⟩, fun s hs => ?_⟩
  have hs : s ∈ [SV.int .i64 a0, SV.int .i64 a1, SV.int .i64 a2, SV.int .i64 a3] := hs
  simp only [List.mem_cons, List.not_mem_nil, or_false] at hs
  rcases hs with rfl | rfl | rfl | rfl
  · exact w0
  · exact w1
  · exact w2
  · exact w3
theorem wlEvent : RowOf rlEvent [.int .i64, .int .i64, .int .i64, .int .i64] := fun row h => by
  obtain ⟨a0, _, rfl, w0, h0⟩ := ck_int h
  obtain ⟨a1, _, rfl, w1, h1⟩ := ck_int h0
  obtain ⟨a2, _, rfl, w2, h2⟩ := ck_int h1
  obtain ⟨a3, _, rfl, w3, h3⟩ := ck_int h2
  obtain rfl := ck_nil h3
  refine ⟨⟨a0, a1, a2, a3⟩, ⟨rfl, rfl, rfl, rfl, trivial⟩, fun s hs => ?_⟩
  have hs : s ∈ [SV.int .i64 a0, SV.int .i64 a1, SV.int .i64 a2, SV.int .i64 a3] := hs
  simp only [List.mem_cons, List.not_mem_nil, or_false] at hs
  rcases hs with rfl | rfl | rfl | rfl
  · exact w0
  · exact w1
  · exact w2
  · exact w3
theorem wiDevice : RowOf riDevice [.int .i64, .int .i64, .int .i64] := fun row h => by
  obtain ⟨a0, _, rfl, w0, h0⟩ := ck_int h
  obtain ⟨a1, _, rfl, w1, h1⟩ := ck_int h0
  obtain ⟨a2, _, rfl, w2, h2⟩ := ck_int h1
  obtain rfl := ck_nil h2
  refine ⟨⟨a0, a1, a2⟩, ⟨rfl, rfl, rfl, trivial⟩, fun s hs => ?_⟩
  have hs : s ∈ [SV.int .i64 a0, SV.int .i64 a1, SV.int .i64 a2] := hs
  simp only [List.mem_cons, List.not_mem_nil, or_false] at hs
  rcases hs with rfl | rfl | rfl
  · exact w0
  · exact w1
  · exact w2
theorem wiVcpu : RowOf riVcpu [.int .i64, .int .i64, .int .i64, .int .i64, .bool, .int .i64, .int .i64, .int .i64, .int .i64] := fun row h => by
  obtain ⟨a0, _, rfl, w0, h0⟩ := ck_int h
  obtain ⟨a1, _, rfl, w1, h1⟩ := ck_int h0
  obtain ⟨a2, _, rfl, w2, h2⟩ := ck_int h1
  obtain ⟨a3, _, rfl, w3, h3⟩ := ck_int h2
  obtain ⟨a4, _, rfl, h4⟩ := ck_bool h3
  obtain ⟨a5, _, rfl, w5, h5⟩ := ck_int h4
  obtain ⟨a6, _, rfl, w6, h6⟩ := ck_int h5
  obtain ⟨a7, _, rfl, w7, h7⟩ := ck_int h6
  obtain ⟨a8, _, rfl, w8, h8⟩ := ck_int h7
  obtain rfl := ck_nil h8
  refine ⟨⟨a0, a1, a2, a3, a4, a5, a6, a7, a8⟩, ⟨rfl, rfl, rfl, rfl, rfl, rfl, rfl, rfl, rfl, trivial⟩, fun s hs => ?_⟩
  have hs : s ∈ [SV.int .i64 a0, SV.int .i64 a1, SV.int .i64 a2, SV.int .i64 a3, SV.bool a4, SV.int .i64 a5, SV.int .i64 a6, SV.int .i64 a7, SV.int .i64 a8] := hs
  simp only [List.mem_cons, List.not_mem_nil, or_false] at hs
  rcases hs with rfl | rfl | rfl | rfl | rfl | rfl | rfl | rfl | rfl
  · exact w0
  · exact w1
  · exact w2
  · exact w3
  · exact trivial
  · exact w5
  · exact w6
  · exact w7
  · exact w8
theorem wlVcpu : RowOf rlVcpu [.int .i64, .int .i64, .int .i64, .int .i64, .bool, .int .i64, .int .i64, .int .i64, .int .i64] := fun row h => by
  obtain ⟨a0, _, rfl, w0, h0⟩ := ck_int h
  obtain ⟨a1, _, rfl, w1, h1⟩ := ck_int h0
  obtain ⟨a2, _, rfl, w2, h2⟩ := ck_int h1
  obtain ⟨a3, _, rfl, w3, h3⟩ := ck_int h2
  obtain ⟨a4, _, rfl, h4⟩ := ck_bool h3
  obtain ⟨a5, _, rfl, w5, h5⟩ := ck_int h4
  obtain ⟨a6, _, rfl, w6, h6⟩ := ck_int h5
  obtain ⟨a7, _, rfl, w7, h7⟩ := ck_int h6
  obtain ⟨a8, _, rfl, w8, h8⟩ := ck_int h7
  obtain rfl := ck_nil h8
  refine ⟨⟨a0, a1, a2, a3, a4, a5, a6, a7, a8⟩, ⟨rfl, rfl, rfl, rfl, rfl, rfl, rfl, rfl, rfl, trivial⟩, fun s hs => ?_⟩
  have hs : s ∈ [SV.int .i64 a0, SV.int .i64 a1, SV.int .i64 a2, SV.int .i64 a3, SV.bool a4, SV.int .i64 a5, SV.int .i64 a6, SV.int .i64 a7, SV.int .i64 a8] := hs
  simp only [List.mem_cons, List.not_mem_nil, or_false] at hs
  rcases hs with rfl | rfl | rfl | rfl | rfl | rfl | rfl | rfl | rfl
  · exact w0
  · exact w1
  · exact w2
  · exact w3
  · exact trivial
  · exact w5
  · exact w6
  · exact w7
  · exact w8
theorem wlRtTask : RowOf rlRtTask [.int .i64, .int .i64, .int .i64] := fun row h => by
  obtain ⟨a0, _, rfl, w0, h0⟩ := ck_int h
  obtain ⟨a1, _, rfl, w1, h1⟩ := ck_int h0
  obtain ⟨a2, _, rfl, w2, h2⟩ := ck_int h1
  obtain rfl := ck_nil h2
  refine ⟨⟨a0, a1, a2⟩, ⟨rfl, rfl, rfl, trivial⟩, fun s hs => ?_⟩
  have hs : s ∈ [SV.int .i64 a0, SV.int .i64 a1, SV.int .i64 a2] := hs
  simp only [List.mem_cons, List.not_mem_nil, or_false] at hs
  rcases hs with rfl | rfl | rfl
  · exact w0
  · exact w1
  · exact w2
theorem wiFirmTable : RowOf riFirmTable [.str, .int .i64, .str] := fun row h => by
  obtain ⟨a0, _, rfl, w0, h0⟩ := ck_str h
  obtain ⟨a1, _, rfl, w1, h1⟩ := ck_int h0
  obtain ⟨a2, _, rfl, w2, h2⟩ := ck_str h1
  obtain rfl := ck_nil h2
  refine ⟨⟨a0, a1, a2⟩, ⟨rfl, rfl, rfl, trivial⟩, fun s hs => ?_⟩
  have hs : s ∈ [SV.str a0, SV.int .i64 a1, SV.str a2] := hs
  simp only [List.mem_cons, List.not_mem_nil, or_false] at hs
  rcases hs with rfl | rfl | rfl
  · exact w0
  · exact w1
  · exact w2
theorem wlFirmTable : RowOf rlFirmTable [.str, .int .i64, .str] := fun row h => by
  obtain ⟨a0, _, rfl, w0, h0⟩ := ck_str h
  obtain ⟨a1, _, rfl, w1, h1⟩ := ck_int h0
  obtain ⟨a2, _, rfl, w2, h2⟩ := ck_str h1
  obtain rfl := ck_nil h2
  refine ⟨⟨a0, a1, a2⟩, ⟨rfl, rfl, rfl, trivial⟩, fun s hs => ?_⟩
  have hs : s ∈ [SV.str a0, SV.int .i64 a1, SV.str a2] := hs
  simp only [List.mem_cons, List.not_mem_nil, or_false] at hs
  rcases hs with rfl | rfl | rfl
  · exact w0
  · exact w1
  · exact w2
theorem wiKeySlot : RowOf riKeySlot [.int .i64, .str, .str] := fun row h => by
  obtain ⟨a0, _, rfl, w0, h0⟩ := ck_int h
  obtain ⟨a1, _, rfl, w1, h1⟩ := ck_str h0
  obtain ⟨a2, _, rfl, w2, h2⟩ := ck_str h1
  obtain rfl := ck_nil h2
  refine ⟨⟨a0, a1, a2⟩, ⟨rfl, rfl, rfl, trivial⟩, fun s hs => ?_⟩
  have hs : s ∈ [SV.int .i64 a0, SV.str a1, SV.str a2] := hs
  simp only [List.mem_cons, List.not_mem_nil, or_false] at hs
  rcases hs with rfl | rfl | rfl
  · exact w0
  · exact w1
  · exact w2
theorem wlDevice : RowOf rlDevice [.int .i64, .int .i64, .int .i64] := fun row h => by
  obtain ⟨a0, _, rfl, w0, h0⟩ := ck_int h
  obtain ⟨a1, _, rfl, w1, h1⟩ := ck_int h0
  obtain ⟨a2, _, rfl, w2, h2⟩ := ck_int h1
  obtain rfl := ck_nil h2
  refine ⟨⟨a0, a1, a2⟩, ⟨rfl, rfl, rfl, trivial⟩, fun s hs => ?_⟩
  have hs : s ∈ [SV.int .i64 a0, SV.int .i64 a1, SV.int .i64 a2] := hs
  simp only [List.mem_cons, List.not_mem_nil, or_false] at hs
  rcases hs with rfl | rfl | rfl
  · exact w0
  · exact w1
  · exact w2
theorem wlKeySlot : RowOf rlKeySlot [.int .i64, .str, .str] := fun row h => by
  obtain ⟨a0, _, rfl, w0, h0⟩ := ck_int h
  obtain ⟨a1, _, rfl, w1, h1⟩ := ck_str h0
  obtain ⟨a2, _, rfl, w2, h2⟩ := ck_str h1
  obtain rfl := ck_nil h2
  refine ⟨⟨a0, a1, a2⟩, ⟨rfl, rfl, rfl, trivial⟩, fun s hs => ?_⟩
  have hs : s ∈ [SV.int .i64 a0, SV.str a1, SV.str a2] := hs
  simp only [List.mem_cons, List.not_mem_nil, or_false] at hs
  rcases hs with rfl | rfl | rfl
  · exact w0
  · exact w1
  · exact w2
theorem ok : EnvOk E where
  mixed := by kernel_rfl
  cells_len := B.cells_len
  plain := B.plain
  info := B.info
  rowK := fun _ _ _ _ h => B.rowK_ok h
  setK := fun _ _ _ _ _ h => B.setK_ok h
  appK := fun _ _ _ _ h => B.appK_ok h
  mkK := fun _ _ _ _ h => B.mkK_ok h
  zeroK := fun _ _ _ _ h => B.zeroK_ok h
  subK := fun _ _ _ _ _ h => B.subK_ok h
  strK := fun _ _ _ _ _ h => B.strK_ok h
  bytesK := fun _ _ _ _ h => B.bytesK_ok h
  ovK := fun _ _ _ _ _ h => B.ovK_ok h
  ty := fun _ _ h => tabLook_ok tab_ok h
end Go.Sa
