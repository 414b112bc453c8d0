/- What functions of this program do, each as a contract that its callers use, and what follows of it in plain numbers.
   By an AI agent. -/
import Derived.Test.YtlhhcongoplfpaaDoorABM
import Derived.Test.YtlhhcongoplfpaaDoorProg
import Derived.Test.YtlhhcongoplfpaaDoorAB
import Derived.Laws.Bits64
namespace Go.Proofs.YtlhhcongoplfpaaDoor
open Go Go.Proofs.YtlhhcongoplfpaaDoorAB
/-- The types' layout. -/
def lay : Lay := [
  (1, { agg := false, size := 1, zero := [.nilFunc] }),
  (2, { agg := false, size := 1, zero := [.int .i64 0] }),
  (3, { agg := false, size := 1, zero := [.int .i64 0] }),
  (4, { agg := false, size := 1, zero := [.bool false], bytes := 1 }),
  (5, { agg := false, size := 1, zero := [.int .u8 0], bytes := 1 }),
  (6, { agg := false, size := 1, zero := [.int .u8 0], bytes := 1 }),
  (7, { agg := true, size := 4, zero := [.int .i64 0, .int .i64 0, .bool false, .int .u8 0], bytes := 24, fs := [(0, 1), (1, 1), (2, 1), (3, 1)] }),
  (8, { agg := true, size := 4, zero := [.int .i64 0, .int .i64 0, .bool false, .int .u8 0], bytes := 24, fs := [(0, 1), (1, 1), (2, 1), (3, 1)] }),
  (9, { agg := false, size := 1, zero := [.string ByteArray.empty], bytes := 16 }),
  (10, { agg := false, size := 1, zero := [.string ByteArray.empty], bytes := 16 }),
  (11, { agg := false, size := 1, zero := [.string ByteArray.empty], bytes := 16 }),
  (12, { agg := false, size := 1, zero := [.int .u64 0] }),
  (13, { agg := true, size := 2, zero := [.string ByteArray.empty, .int .u64 0], bytes := 24, fs := [(0, 1), (1, 1)] }),
  (14, { agg := true, size := 2, zero := [.string ByteArray.empty, .int .u64 0], bytes := 24, fs := [(0, 1), (1, 1)] }),
  (15, { agg := false, size := 1, zero := [.pointer none] }),
  (16, { agg := false, size := 1, zero := [.pointer none] }),
  (17, { agg := false, size := 1, zero := [.pointer none] }),
  (18, { agg := true, size := 1, zero := [.pointer none], fs := [(0, 1)] }),
  (19, { agg := true, size := 1, zero := [.pointer none], fs := [(0, 1)] }),
  (20, { agg := false, size := 1, zero := [.nilIface], bytes := 16 }),
  (21, { agg := false, size := 1, zero := [.int .i32 0], bytes := 4 }),
  (22, { agg := false, size := 1, zero := [.slice none 0 0], bytes := 24, sl := some (3, 1) }),
  (23, { agg := false, size := 1, zero := [.nilFunc] }),
  (24, { agg := false, size := 1, zero := [.slice none 0 0], bytes := 24, sl := some (27, 2) }),
  (25, { agg := false, size := 1, zero := [.nilFunc] }),
  (26, { agg := true, size := 2, zero := [.int .i64 0, .int .i64 0], bytes := 16, fs := [(0, 1), (1, 1)] }),
  (27, { agg := true, size := 2, zero := [.int .i64 0, .int .i64 0], bytes := 16, fs := [(0, 1), (1, 1)] }),
  (28, { agg := false, size := 1, zero := [.nilFunc] }),
  (29, { agg := false, size := 1, zero := [.nilIface], bytes := 16 }),
  (30, { agg := false, size := 1, zero := [.nilIface], bytes := 16 }),
  (31, { agg := false, size := 1, zero := [.nilFunc] }),
  (32, { agg := true, size := 3, zero := [.int .i64 0, .bool false, .int .i64 0], bytes := 24, fs := [(0, 1), (1, 1), (2, 1)] }),
  (33, { agg := true, size := 3, zero := [.int .i64 0, .bool false, .int .i64 0], bytes := 24, fs := [(0, 1), (1, 1), (2, 1)] }),
  (34, { agg := false, size := 1, zero := [.nilFunc] }),
  (35, { agg := false, size := 1, zero := [.nilFunc] }),
  (36, { agg := false, size := 1, zero := [.nilFunc] }),
  (37, { agg := true, size := 2, zero := [.int .i64 0, .int .i64 0], bytes := 16, fs := [(0, 1), (1, 1)] }),
  (38, { agg := true, size := 2, zero := [.int .i64 0, .int .i64 0], bytes := 16, fs := [(0, 1), (1, 1)] }),
  (39, { agg := false, size := 1, zero := [.nilFunc] }),
  (40, { agg := false, size := 1, zero := [.nilFunc] }),
  (41, { agg := false, size := 1, zero := [.nilFunc] }),
  (42, { agg := false, size := 1, zero := [.nilFunc] }),
  (43, { agg := false, size := 1, zero := [.nilFunc] }),
  (44, { agg := false, size := 1, zero := [.nilFunc] }),
  (45, { agg := false, size := 1, zero := [.nilFunc] }),
  (46, { agg := false, size := 1, zero := [.nilFunc] }),
  (47, { agg := true, size := 2, zero := [.int .i64 0, .bool false], bytes := 16, fs := [(0, 1), (1, 1)] }),
  (48, { agg := true, size := 2, zero := [.int .i64 0, .bool false], bytes := 16, fs := [(0, 1), (1, 1)] }),
  (49, { agg := false, size := 1, zero := [.slice none 0 0], bytes := 24, sl := some (97, 3) }),
  (50, { agg := true, size := 27, zero := [.int .i64 0, .int .i64 0, .int .i64 0, .int .i64 0, .int .i64 0, .int .i64 0, .int .i64 0, .int .i64 0, .int .i64 0, .int .i64 0, .int .i64 0, .int .i64 0, .int .i64 0, .int .i64 0, .int .i64 0, .int .i64 0, .int .i64 0, .int .i64 0, .int .i64 0, .int .i64 0, .slice none 0 0, .int .i64 0, .int .i64 0, .int .i64 0, .int .i64 0, .int .i64 0, .slice none 0 0], bytes := 248, fs := [(0, 1), (1, 1), (2, 1), (3, 1), (4, 1), (5, 1), (6, 1), (7, 1), (8, 1), (9, 1), (10, 1), (11, 1), (12, 1), (13, 1), (14, 1), (15, 1), (16, 1), (17, 1), (18, 1), (19, 1), (20, 1), (21, 1), (22, 1), (23, 1), (24, 1), (25, 1), (26, 1)] }),
  (51, { agg := true, size := 27, zero := [.int .i64 0, .int .i64 0, .int .i64 0, .int .i64 0, .int .i64 0, .int .i64 0, .int .i64 0, .int .i64 0, .int .i64 0, .int .i64 0, .int .i64 0, .int .i64 0, .int .i64 0, .int .i64 0, .int .i64 0, .int .i64 0, .int .i64 0, .int .i64 0, .int .i64 0, .int .i64 0, .slice none 0 0, .int .i64 0, .int .i64 0, .int .i64 0, .int .i64 0, .int .i64 0, .slice none 0 0], bytes := 248, fs := [(0, 1), (1, 1), (2, 1), (3, 1), (4, 1), (5, 1), (6, 1), (7, 1), (8, 1), (9, 1), (10, 1), (11, 1), (12, 1), (13, 1), (14, 1), (15, 1), (16, 1), (17, 1), (18, 1), (19, 1), (20, 1), (21, 1), (22, 1), (23, 1), (24, 1), (25, 1), (26, 1)] }),
  (52, { agg := false, size := 1, zero := [.nilFunc] }),
  (54, { agg := false, size := 1, zero := [.nilFunc] }),
  (55, { agg := false, size := 1, zero := [.nilFunc] }),
  (56, { agg := false, size := 1, zero := [.nilFunc] }),
  (57, { agg := false, size := 1, zero := [.nilFunc] }),
  (58, { agg := false, size := 1, zero := [.nilFunc] }),
  (59, { agg := false, size := 1, zero := [.nilFunc] }),
  (60, { agg := false, size := 1, zero := [.nilFunc] }),
  (61, { agg := true, size := 4, zero := [.bool false, .bool false, .bool false, .bool false], bytes := 4, arr := some (4, 4, 1) }),
  (62, { agg := true, size := 4, zero := [.int .i64 0, .int .i64 0, .int .i64 0, .int .i64 0], bytes := 32, arr := some (4, 3, 1) }),
  (63, { agg := true, size := 3, zero := [.bool false, .bool false, .bool false], bytes := 3, arr := some (3, 4, 1) }),
  (64, { agg := true, size := 14, zero := [.bool false, .bool false, .bool false, .bool false, .int .i64 0, .int .i64 0, .int .i64 0, .int .i64 0, .bool false, .bool false, .bool false, .int .i64 0, .int .i64 0, .int .i64 0], bytes := 72, fs := [(0, 4), (4, 4), (8, 3), (11, 1), (12, 1), (13, 1)] }),
  (65, { agg := true, size := 14, zero := [.bool false, .bool false, .bool false, .bool false, .int .i64 0, .int .i64 0, .int .i64 0, .int .i64 0, .bool false, .bool false, .bool false, .int .i64 0, .int .i64 0, .int .i64 0], bytes := 72, fs := [(0, 4), (4, 4), (8, 3), (11, 1), (12, 1), (13, 1)] }),
  (66, { agg := false, size := 1, zero := [.nilFunc] }),
  (68, { agg := false, size := 1, zero := [.nilFunc] }),
  (69, { agg := false, size := 1, zero := [.nilFunc] }),
  (70, { agg := false, size := 1, zero := [.nilFunc] }),
  (71, { agg := false, size := 1, zero := [.nilFunc] }),
  (72, { agg := false, size := 1, zero := [.nilFunc] }),
  (73, { agg := false, size := 1, zero := [.int .u64 0] }),
  (74, { agg := false, size := 1, zero := [.nilFunc] }),
  (75, { agg := false, size := 1, zero := [.slice none 0 0], bytes := 24, sl := some (84, 6) }),
  (76, { agg := false, size := 1, zero := [.pointer none] }),
  (77, { agg := false, size := 1, zero := [.nilFunc] }),
  (78, { agg := false, size := 1, zero := [.pointer none] }),
  (79, { agg := false, size := 1, zero := [.nilFunc] }),
  (80, { agg := false, size := 1, zero := [.nilFunc] }),
  (81, { agg := true, size := 34, zero := [.int .i64 0, .int .i64 0, .int .i64 0, .int .i64 0, .int .i64 0, .int .i64 0, .int .i64 0, .int .i64 0, .int .i64 0, .int .i64 0, .int .i64 0, .int .i64 0, .int .i64 0, .int .i64 0, .int .i64 0, .int .i64 0, .int .i64 0, .int .i64 0, .int .i64 0, .int .i64 0, .slice none 0 0, .int .i64 0, .int .i64 0, .int .i64 0, .int .i64 0, .int .i64 0, .slice none 0 0, .int .i64 0, .int .i64 0, .int .i64 0, .int .i64 0, .int .i64 0, .int .i64 0, .bool false], bytes := 304, fs := [(0, 27), (27, 2), (29, 2), (31, 2), (33, 1)] }),
  (82, { agg := true, size := 34, zero := [.int .i64 0, .int .i64 0, .int .i64 0, .int .i64 0, .int .i64 0, .int .i64 0, .int .i64 0, .int .i64 0, .int .i64 0, .int .i64 0, .int .i64 0, .int .i64 0, .int .i64 0, .int .i64 0, .int .i64 0, .int .i64 0, .int .i64 0, .int .i64 0, .int .i64 0, .int .i64 0, .slice none 0 0, .int .i64 0, .int .i64 0, .int .i64 0, .int .i64 0, .int .i64 0, .slice none 0 0, .int .i64 0, .int .i64 0, .int .i64 0, .int .i64 0, .int .i64 0, .int .i64 0, .bool false], bytes := 304, fs := [(0, 27), (27, 2), (29, 2), (31, 2), (33, 1)] }),
  (83, { agg := true, size := 6, zero := [.int .i64 0, .bool false, .int .i64 0, .bool false, .int .i64 0, .bool false], bytes := 48, fs := [(0, 2), (2, 2), (4, 2)] }),
  (84, { agg := true, size := 6, zero := [.int .i64 0, .bool false, .int .i64 0, .bool false, .int .i64 0, .bool false], bytes := 48, fs := [(0, 2), (2, 2), (4, 2)] }),
  (85, { agg := false, size := 1, zero := [.nilFunc] }),
  (87, { agg := false, size := 1, zero := [.nilFunc] }),
  (88, { agg := false, size := 1, zero := [.nilFunc] }),
  (89, { agg := false, size := 1, zero := [.slice none 0 0], bytes := 24, sl := some (2, 1) }),
  (90, { agg := false, size := 1, zero := [.slice none 0 0], bytes := 24, sl := some (4, 1) }),
  (91, { agg := false, size := 1, zero := [.nilFunc] }),
  (92, { agg := false, size := 1, zero := [.nilFunc] }),
  (93, { agg := false, size := 1, zero := [.nilFunc] }),
  (94, { agg := false, size := 1, zero := [.nilFunc] }),
  (95, { agg := false, size := 1, zero := [.nilFunc] }),
  (96, { agg := true, size := 3, zero := [.int .i64 0, .int .i64 0, .int .i64 0], bytes := 24, fs := [(0, 1), (1, 1), (2, 1)] }),
  (97, { agg := true, size := 3, zero := [.int .i64 0, .int .i64 0, .int .i64 0], bytes := 24, fs := [(0, 1), (1, 1), (2, 1)] }),
  (98, { agg := false, size := 1, zero := [.nilFunc] }),
  (99, { agg := false, size := 1, zero := [.pointer none] }),
  (100, { agg := false, size := 1, zero := [.nilFunc] }),
  (101, { agg := false, size := 1, zero := [.pointer none] }),
  (102, { agg := true, size := 16, zero := [.int .i64 0, .int .i64 0, .int .i64 0, .int .i64 0, .int .i64 0, .int .i64 0, .int .i64 0, .int .i64 0, .int .i64 0, .int .i64 0, .int .i64 0, .int .i64 0, .int .i64 0, .int .i64 0, .int .i64 0, .int .i64 0], bytes := 128, arr := some (16, 3, 1) }),
  (103, { agg := true, size := 44, zero := [.int .i64 0, .int .i64 0, .int .i64 0, .int .i64 0, .int .i64 0, .int .i64 0, .int .i64 0, .int .i64 0, .int .i64 0, .int .i64 0, .int .i64 0, .int .i64 0, .int .i64 0, .int .i64 0, .int .i64 0, .int .i64 0, .int .i64 0, .int .i64 0, .int .i64 0, .int .i64 0, .slice none 0 0, .int .i64 0, .int .i64 0, .int .i64 0, .int .i64 0, .int .i64 0, .slice none 0 0, .int .i64 0, .int .i64 0, .int .i64 0, .int .i64 0, .int .i64 0, .int .i64 0, .int .i64 0, .int .i64 0, .int .i64 0, .int .i64 0, .int .i64 0, .int .i64 0, .int .i64 0, .int .i64 0, .int .i64 0, .int .i64 0, .int .i64 0], bytes := 384, fs := [(0, 27), (27, 16), (43, 1)] }),
  (104, { agg := true, size := 44, zero := [.int .i64 0, .int .i64 0, .int .i64 0, .int .i64 0, .int .i64 0, .int .i64 0, .int .i64 0, .int .i64 0, .int .i64 0, .int .i64 0, .int .i64 0, .int .i64 0, .int .i64 0, .int .i64 0, .int .i64 0, .int .i64 0, .int .i64 0, .int .i64 0, .int .i64 0, .int .i64 0, .slice none 0 0, .int .i64 0, .int .i64 0, .int .i64 0, .int .i64 0, .int .i64 0, .slice none 0 0, .int .i64 0, .int .i64 0, .int .i64 0, .int .i64 0, .int .i64 0, .int .i64 0, .int .i64 0, .int .i64 0, .int .i64 0, .int .i64 0, .int .i64 0, .int .i64 0, .int .i64 0, .int .i64 0, .int .i64 0, .int .i64 0, .int .i64 0], bytes := 384, fs := [(0, 27), (27, 16), (43, 1)] }),
  (105, { agg := false, size := 1, zero := [.nilFunc] }),
  (106, { agg := false, size := 1, zero := [.nilFunc] }),
  (107, { agg := false, size := 1, zero := [.nilFunc] }),
  (108, { agg := false, size := 1, zero := [.nilFunc] }),
  (109, { agg := false, size := 1, zero := [.nilFunc] }),
  (110, { agg := true, size := 2, zero := [.bool false, .bool false], bytes := 2, arr := some (2, 4, 1) }),
  (111, { agg := true, size := 2, zero := [.int .i64 0, .int .i64 0], bytes := 16, arr := some (2, 2, 1) }),
  (112, { agg := true, size := 2, zero := [.int .i64 0, .int .i64 0], bytes := 16, arr := some (2, 3, 1) }),
  (113, { agg := true, size := 4, zero := [.int .i64 0, .int .i64 0, .int .i64 0, .int .i64 0], bytes := 32, arr := some (2, 38, 2) }),
  (114, { agg := false, size := 1, zero := [.nilFunc] }),
  (115, { agg := false, size := 1, zero := [.nilFunc] }),
  (116, { agg := false, size := 1, zero := [.nilFunc] }),
  (117, { agg := false, size := 1, zero := [.nilFunc] }),
  (118, { agg := false, size := 1, zero := [.nilFunc] }),
  (119, { agg := false, size := 1, zero := [.nilFunc] }),
  (120, { agg := false, size := 1, zero := [.pointer none] }),
  (121, { agg := true, size := 2, zero := [.int .i64 0, .nilIface], bytes := 24, fs := [(0, 1), (1, 1)] }),
  (122, { agg := true, size := 2, zero := [.int .i64 0, .nilIface], bytes := 24, fs := [(0, 1), (1, 1)] }),
  (123, { agg := false, size := 1, zero := [.nilFunc] }),
  (124, { agg := false, size := 1, zero := [.nilFunc] }),
  (125, { agg := false, size := 1, zero := [.nilFunc] }),
  (126, { agg := false, size := 1, zero := [.nilFunc] }),
  (127, { agg := false, size := 1, zero := [.nilFunc] }),
  (128, { agg := false, size := 1, zero := [.nilFunc] }),
  (129, { agg := false, size := 1, zero := [.nilFunc] }),
  (130, { agg := false, size := 1, zero := [.nilFunc] }),
  (132, { agg := false, size := 1, zero := [.nilFunc] }),
  (133, { agg := false, size := 1, zero := [.nilFunc] }),
  (134, { agg := false, size := 1, zero := [.pointer none] }),
  (135, { agg := false, size := 1, zero := [.nilFunc] }),
  (136, { agg := true, size := 32, zero := [.int .i64 0, .int .i64 0, .int .i64 0, .int .i64 0, .int .i64 0, .int .i64 0, .int .i64 0, .int .i64 0, .int .i64 0, .int .i64 0, .int .i64 0, .int .i64 0, .int .i64 0, .int .i64 0, .int .i64 0, .int .i64 0, .int .i64 0, .int .i64 0, .int .i64 0, .int .i64 0, .slice none 0 0, .int .i64 0, .int .i64 0, .int .i64 0, .int .i64 0, .int .i64 0, .slice none 0 0, .pointer none, .pointer none, .bool false, .int .i64 0, .int .i64 0], bytes := 288, fs := [(0, 27), (27, 1), (28, 1), (29, 1), (30, 2)] }),
  (137, { agg := true, size := 32, zero := [.int .i64 0, .int .i64 0, .int .i64 0, .int .i64 0, .int .i64 0, .int .i64 0, .int .i64 0, .int .i64 0, .int .i64 0, .int .i64 0, .int .i64 0, .int .i64 0, .int .i64 0, .int .i64 0, .int .i64 0, .int .i64 0, .int .i64 0, .int .i64 0, .int .i64 0, .int .i64 0, .slice none 0 0, .int .i64 0, .int .i64 0, .int .i64 0, .int .i64 0, .int .i64 0, .slice none 0 0, .pointer none, .pointer none, .bool false, .int .i64 0, .int .i64 0], bytes := 288, fs := [(0, 27), (27, 1), (28, 1), (29, 1), (30, 2)] }),
  (138, { agg := false, size := 1, zero := [.nilFunc] }),
  (139, { agg := false, size := 1, zero := [.nilFunc] }),
  (140, { agg := true, size := 2, zero := [.pointer none, .pointer none], bytes := 16, arr := some (2, 134, 1) }),
  (141, { agg := false, size := 1, zero := [.nilFunc] }),
  (142, { agg := false, size := 1, zero := [.nilFunc] }),
  (143, { agg := false, size := 1, zero := [.nilFunc] }),
  (144, { agg := false, size := 1, zero := [.nilFunc] }),
  (145, { agg := false, size := 1, zero := [.slice none 0 0], bytes := 24, sl := some (38, 2) }),
  (146, { agg := false, size := 1, zero := [.nilFunc] }),
  (147, { agg := true, size := 4, zero := [.int .i64 0, .int .i64 0, .int .i64 0, .int .i64 0], bytes := 32, arr := some (4, 2, 1) }),
  (148, { agg := false, size := 1, zero := [.nilFunc] }),
  (149, { agg := true, size := 3, zero := [.int .i64 0, .slice none 0 0, .int .i64 0], bytes := 40, fs := [(0, 1), (1, 1), (2, 1)] }),
  (150, { agg := true, size := 3, zero := [.int .i64 0, .slice none 0 0, .int .i64 0], bytes := 40, fs := [(0, 1), (1, 1), (2, 1)] }),
  (152, { agg := false, size := 1, zero := [.nilFunc] }),
  (153, { agg := false, size := 1, zero := [.int .u64 0] }),
  (154, { agg := false, size := 1, zero := [.nilFunc] }),
  (155, { agg := false, size := 1, zero := [.nilFunc] }),
  (156, { agg := false, size := 1, zero := [.int .u32 0], bytes := 4 }),
  (157, { agg := false, size := 1, zero := [.nilFunc] }),
  (158, { agg := true, size := 29, zero := [.int .i64 0, .int .i64 0, .int .i64 0, .int .i64 0, .int .i64 0, .int .i64 0, .int .i64 0, .int .i64 0, .int .i64 0, .int .i64 0, .int .i64 0, .int .i64 0, .int .i64 0, .int .i64 0, .int .i64 0, .int .i64 0, .int .i64 0, .int .i64 0, .int .i64 0, .int .i64 0, .slice none 0 0, .int .i64 0, .int .i64 0, .int .i64 0, .int .i64 0, .int .i64 0, .slice none 0 0, .int .i64 0, .int .i64 0], bytes := 264, fs := [(0, 27), (27, 2)] }),
  (159, { agg := true, size := 29, zero := [.int .i64 0, .int .i64 0, .int .i64 0, .int .i64 0, .int .i64 0, .int .i64 0, .int .i64 0, .int .i64 0, .int .i64 0, .int .i64 0, .int .i64 0, .int .i64 0, .int .i64 0, .int .i64 0, .int .i64 0, .int .i64 0, .int .i64 0, .int .i64 0, .int .i64 0, .int .i64 0, .slice none 0 0, .int .i64 0, .int .i64 0, .int .i64 0, .int .i64 0, .int .i64 0, .slice none 0 0, .int .i64 0, .int .i64 0], bytes := 264, fs := [(0, 27), (27, 2)] }),
  (160, { agg := false, size := 1, zero := [.nilFunc] }),
  (161, { agg := false, size := 1, zero := [.nilFunc] }),
  (162, { agg := false, size := 1, zero := [.nilFunc] }),
  (163, { agg := false, size := 1, zero := [.slice none 0 0], bytes := 24, sl := some (30, 1) }),
  (164, { agg := false, size := 1, zero := [.nilFunc] }),
  (165, { agg := false, size := 1, zero := [.nilFunc] }),
  (166, { agg := true, size := 32, zero := [.int .u8 0, .int .u8 0, .int .u8 0, .int .u8 0, .int .u8 0, .int .u8 0, .int .u8 0, .int .u8 0, .int .u8 0, .int .u8 0, .int .u8 0, .int .u8 0, .int .u8 0, .int .u8 0, .int .u8 0, .int .u8 0, .int .u8 0, .int .u8 0, .int .u8 0, .int .u8 0, .int .u8 0, .int .u8 0, .int .u8 0, .int .u8 0, .int .u8 0, .int .u8 0, .int .u8 0, .int .u8 0, .int .u8 0, .int .u8 0, .int .u8 0, .int .u8 0], bytes := 32, arr := some (32, 5, 1) }),
  (167, { agg := true, size := 64, zero := [.int .u8 0, .int .u8 0, .int .u8 0, .int .u8 0, .int .u8 0, .int .u8 0, .int .u8 0, .int .u8 0, .int .u8 0, .int .u8 0, .int .u8 0, .int .u8 0, .int .u8 0, .int .u8 0, .int .u8 0, .int .u8 0, .int .u8 0, .int .u8 0, .int .u8 0, .int .u8 0, .int .u8 0, .int .u8 0, .int .u8 0, .int .u8 0, .int .u8 0, .int .u8 0, .int .u8 0, .int .u8 0, .int .u8 0, .int .u8 0, .int .u8 0, .int .u8 0, .int .u8 0, .int .u8 0, .int .u8 0, .int .u8 0, .int .u8 0, .int .u8 0, .int .u8 0, .int .u8 0, .int .u8 0, .int .u8 0, .int .u8 0, .int .u8 0, .int .u8 0, .int .u8 0, .int .u8 0, .int .u8 0, .int .u8 0, .int .u8 0, .int .u8 0, .int .u8 0, .int .u8 0, .int .u8 0, .int .u8 0, .int .u8 0, .int .u8 0, .int .u8 0, .int .u8 0, .int .u8 0, .int .u8 0, .int .u8 0, .int .u8 0, .int .u8 0], bytes := 64, arr := some (64, 5, 1) }),
  (168, { agg := false, size := 1, zero := [.nilFunc] }),
  (169, { agg := false, size := 1, zero := [.nilFunc] }),
  (170, { agg := false, size := 1, zero := [.nilFunc] }),
  (171, { agg := false, size := 1, zero := [.pointer none] }),
  (172, { agg := false, size := 1, zero := [.nilFunc] }),
  (173, { agg := true, size := 4, zero := [.pointer none, .pointer none, .pointer none, .string ByteArray.empty], bytes := 40, fs := [(0, 1), (1, 1), (2, 1), (3, 1)] }),
  (174, { agg := true, size := 4, zero := [.pointer none, .pointer none, .pointer none, .string ByteArray.empty], bytes := 40, fs := [(0, 1), (1, 1), (2, 1), (3, 1)] }),
  (175, { agg := true, size := 0, zero := [], bytes := 0, arr := some (0, 16, 1) }),
  (176, { agg := true, size := 0, zero := [], bytes := 0, fs := [(0, 0)] }),
  (177, { agg := true, size := 0, zero := [], bytes := 0, fs := [(0, 0)] }),
  (178, { agg := false, size := 1, zero := [.int .u8 0], bytes := 1 }),
  (179, { agg := false, size := 1, zero := [.int .u8 0], bytes := 1 }),
  (180, { agg := false, size := 1, zero := [.nilFunc] }),
  (181, { agg := false, size := 1, zero := [.pointer none] }),
  (182, { agg := false, size := 1, zero := [.int .i32 0], bytes := 4 }),
  (183, { agg := false, size := 1, zero := [.int .i32 0], bytes := 4 }),
  (184, { agg := true, size := 11, zero := [.int .u64 0, .int .u64 0, .int .u32 0, .int .u8 0, .int .u8 0, .int .u8 0, .int .u8 0, .nilFunc, .pointer none, .int .i32 0, .int .i32 0], bytes := 48, fs := [(0, 1), (1, 1), (2, 1), (3, 1), (4, 1), (5, 1), (6, 1), (7, 1), (8, 1), (9, 1), (10, 1)] }),
  (185, { agg := true, size := 11, zero := [.int .u64 0, .int .u64 0, .int .u32 0, .int .u8 0, .int .u8 0, .int .u8 0, .int .u8 0, .nilFunc, .pointer none, .int .i32 0, .int .i32 0], bytes := 48, fs := [(0, 1), (1, 1), (2, 1), (3, 1), (4, 1), (5, 1), (6, 1), (7, 1), (8, 1), (9, 1), (10, 1)] }),
  (186, { agg := true, size := 1, zero := [.string ByteArray.empty], bytes := 16, fs := [(0, 1)] }),
  (187, { agg := true, size := 1, zero := [.string ByteArray.empty], bytes := 16, fs := [(0, 1)] }),
  (188, { agg := false, size := 1, zero := [.pointer none] }),
  (189, { agg := false, size := 1, zero := [.nilFunc] })]
set_option maxRecDepth 100000 in
theorem layOk : LayOk Tryd.prog lay = true := by kernel_rfl
theorem mixed : Tryd.prog.follows .mixedOrders = true := by kernel_rfl
end Go.Proofs.YtlhhcongoplfpaaDoor
namespace Go.Proofs.YtlhhcongoplfpaaDoor
open Go Go.Proofs.YtlhhcongoplfpaaDoorAB
variable {G : Nat}
set_option linter.unusedSimpArgs false
set_option linter.unusedVariables false
set_option maxHeartbeats 4000000 in
theorem fixed_Clamp (x lo hi : Int) : Ctr Tryd.prog G 142 [I64 (x), I64 (lo), I64 (hi)] [] (I64 (mx (mn x hi) lo)) [] := by
  refine Ctr.by layOk Tryd.func142 Tryd.ntmps142 rfl rfl rfl rfl rfl ?_
  repeat' (first
    | (((with_reducible refine gQ0 ?_); (first | ((with_reducible apply q_move); apply Eq.refl) | ((with_reducible apply q_assign); apply Eq.refl) | ((with_reducible apply q_min); apply Eq.refl) | ((with_reducible apply q_max); apply Eq.refl))))
    | (((with_reducible refine gR ?_); (first | refine RK.peelN rfl ?_ | refine RK.donef rfl ⟨_, rfl, ?_⟩ | refine RK.donet rfl (by kernel_rfl) ⟨_, rfl, ?_⟩)))
    | (((with_reducible refine gW ?_); (first | with_reducible refine WP.seq ?_ | refine WP.reg mixed (fun ks => _) (fun ks => rfl) (fun ks => ?_) | ((first | (apply cdD; apply Eq.refl) | (apply WP.condE; apply Eq.refl) | (apply WP.condN; apply Eq.refl) | (apply WP.condA; apply Eq.refl)) <;> (intro hc; first | with_reducible exact ff hc | with_reducible exact ff' hc | skip)) | refine WP.ret ?_ | refine WP.skip ?_ | refine WP.exit ?_ | refine WP.goto ?_ | refine WP.label ?_ | refine WP.block ?_)))
    | (with_reducible refine thn_n ?_)
    | (with_reducible refine thn_r ?_)
    | (with_reducible refine thn_e ?_)
    | (with_reducible refine thn_g ?_)
    | (with_reducible refine blk_n ?_)
    | (with_reducible refine blk_r ?_)
    | (with_reducible refine blk_e ?_)
    | (with_reducible refine blk_g ?_)
    | (((with_reducible refine blk_o ?_ ?_); first | exact rfl | skip))
    | (refine Endz.mk' (by first | exact Or.inl rfl | exact Or.inr rfl) (by repeat (first | exact RVs.nil | apply RVs.cons | exact RV1.tmp rfl | exact RV1.row rfl rfl rfl (by repeat (first | exact look_here | apply look_there)) (by exact rfl) | exact RV1.cell rfl rfl rfl (by repeat (first | exact look_here | apply look_there)) (by exact rfl))) (by rfl) (by repeat (first | exact List.nil_sublist _ | exact List.Sublist.refl _ | apply List.Sublist.cons_cons | apply List.Sublist.cons))))
set_option maxHeartbeats 4000000 in
theorem span_Of (a b : Int) : Ctr Tryd.prog G 84 [I64 (a), I64 (b)] [] (.agg #[I64 (mn a b), I64 (mx a b)]) [] := by
  refine Ctr.by layOk Tryd.func84 Tryd.ntmps84 rfl rfl rfl rfl rfl ?_
  repeat' (first
    | (((with_reducible refine gQ0 ?_); (first | ((with_reducible apply q_move); apply Eq.refl) | ((with_reducible apply q_build layOk); (iterate 4 apply Eq.refl)) | ((with_reducible apply q_min); apply Eq.refl) | ((with_reducible apply q_max); apply Eq.refl) | ((with_reducible apply q_alloc (k := ks _) layOk); apply Eq.refl; (focus (repeat (with_reducible (first | apply lh | apply lt)))); apply Eq.refl) | ((with_reducible apply e_store layOk); (iterate 3 apply Eq.refl); (focus (repeat (with_reducible (first | apply lh | apply lt)))); (iterate 5 apply Eq.refl)))))
    | (((with_reducible refine gR ?_); (first | refine RK.peelN rfl ?_ | refine RK.donef rfl ⟨_, rfl, ?_⟩ | refine RK.donet rfl (by kernel_rfl) ⟨_, rfl, ?_⟩)))
    | (((with_reducible refine gW ?_); (first | with_reducible refine WP.seq ?_ | refine WP.reg mixed (fun ks => _) (fun ks => rfl) (fun ks => ?_) | ((first | (apply cdD; apply Eq.refl) | (apply WP.condE; apply Eq.refl) | (apply WP.condN; apply Eq.refl) | (apply WP.condA; apply Eq.refl)) <;> (intro hc; first | with_reducible exact ff hc | with_reducible exact ff' hc | skip)) | refine WP.ret ?_ | refine WP.skip ?_ | refine WP.exit ?_ | refine WP.goto ?_ | refine WP.label ?_ | refine WP.block ?_)))
    | (with_reducible refine thn_n ?_)
    | (with_reducible refine thn_r ?_)
    | (with_reducible refine thn_e ?_)
    | (with_reducible refine thn_g ?_)
    | (with_reducible refine blk_n ?_)
    | (with_reducible refine blk_r ?_)
    | (with_reducible refine blk_e ?_)
    | (with_reducible refine blk_g ?_)
    | (((with_reducible refine blk_o ?_ ?_); first | exact rfl | skip))
    | (refine Endz.mk' (by first | exact Or.inl rfl | exact Or.inr rfl) (by repeat (first | exact RVs.nil | apply RVs.cons | exact RV1.tmp rfl | exact RV1.row rfl rfl rfl (by repeat (first | exact look_here | apply look_there)) (by exact rfl) | exact RV1.cell rfl rfl rfl (by repeat (first | exact look_here | apply look_there)) (by exact rfl))) (by rfl) (by repeat (first | exact List.nil_sublist _ | exact List.Sublist.refl _ | apply List.Sublist.cons_cons | apply List.Sublist.cons))))
set_option maxHeartbeats 4000000 in
theorem span_Clamp (a b lo hi : Int) : Ctr Tryd.prog G 132 [.agg #[I64 (a), I64 (b)], I64 (lo), I64 (hi)] [] (.agg #[I64 (mx (mn a hi) lo), I64 (mx (mn b hi) lo)]) [] := by
  refine Ctr.by layOk Tryd.func132 Tryd.ntmps132 rfl rfl rfl rfl rfl ?_
  repeat' (first
    | (((with_reducible refine gQ0 ?_); (first | ((with_reducible apply q_move); apply Eq.refl) | ((with_reducible apply q_fa layOk); (iterate 5 apply Eq.refl)) | ((with_reducible apply q_load layOk); (iterate 3 apply Eq.refl); (focus (repeat (with_reducible (first | apply lh | apply lt)))); apply Eq.refl) | ((with_reducible apply q_loadr layOk); (iterate 3 apply Eq.refl); (focus (repeat (with_reducible (first | apply lh | apply lt)))); apply Eq.refl) | ((with_reducible apply q_build layOk); (iterate 4 apply Eq.refl)) | ((with_reducible apply q_box (k := ks _)); apply Eq.refl; (focus (repeat (with_reducible (first | apply lh | apply lt)))); apply Eq.refl) | ((with_reducible apply q_alloc (k := ks _) layOk); apply Eq.refl; (focus (repeat (with_reducible (first | apply lh | apply lt)))); apply Eq.refl) | ((with_reducible apply isF (f := 142)); (refine q_call0 rfl (fixed_Clamp _ _ _) ?_)) | ((with_reducible apply e_store layOk); (iterate 3 apply Eq.refl); (focus (repeat (with_reducible (first | apply lh | apply lt)))); (iterate 5 apply Eq.refl)))))
    | (((with_reducible refine gR ?_); (first | refine RK.peelN rfl ?_ | refine RK.donef rfl ⟨_, rfl, ?_⟩ | refine RK.donet rfl (by kernel_rfl) ⟨_, rfl, ?_⟩)))
    | (((with_reducible refine gW ?_); (first | with_reducible refine WP.seq ?_ | refine WP.reg mixed (fun ks => _) (fun ks => rfl) (fun ks => ?_) | ((first | (apply cdD; apply Eq.refl) | (apply WP.condE; apply Eq.refl) | (apply WP.condN; apply Eq.refl) | (apply WP.condA; apply Eq.refl)) <;> (intro hc; first | with_reducible exact ff hc | with_reducible exact ff' hc | skip)) | refine WP.ret ?_ | refine WP.skip ?_ | refine WP.exit ?_ | refine WP.goto ?_ | refine WP.label ?_ | refine WP.block ?_)))
    | (with_reducible refine thn_n ?_)
    | (with_reducible refine thn_r ?_)
    | (with_reducible refine thn_e ?_)
    | (with_reducible refine thn_g ?_)
    | (with_reducible refine blk_n ?_)
    | (with_reducible refine blk_r ?_)
    | (with_reducible refine blk_e ?_)
    | (with_reducible refine blk_g ?_)
    | (((with_reducible refine blk_o ?_ ?_); first | exact rfl | skip))
    | (refine Endz.mk' (by first | exact Or.inl rfl | exact Or.inr rfl) (by repeat (first | exact RVs.nil | apply RVs.cons | exact RV1.tmp rfl | exact RV1.row rfl rfl rfl (by repeat (first | exact look_here | apply look_there)) (by exact rfl) | exact RV1.cell rfl rfl rfl (by repeat (first | exact look_here | apply look_there)) (by exact rfl))) (by rfl) (by repeat (first | exact List.nil_sublist _ | exact List.Sublist.refl _ | apply List.Sublist.cons_cons | apply List.Sublist.cons))))
end Go.Proofs.YtlhhcongoplfpaaDoor
namespace Go.Proofs.YtlhhcongoplfpaaDoor
open Go Go.Proofs.YtlhhcongoplfpaaDoorAB
variable {G : Nat}
set_option linter.unusedSimpArgs false
set_option linter.unusedVariables false
set_option maxHeartbeats 4000000 in
theorem Counter_Set (p : Nat) (c : Cfg) (lo hi a b : Int) : Ctr Tryd.prog G 108 [.pointer (some ⟨p, 0, none⟩), .agg #[.int .i64 a, .int .i64 b]] [(p, .cells (c.cells ++ [.int .i64 lo, .int .i64 hi]) 159)] (.tuple #[]) [.cells (c.cells ++ [.int .i64 (mx (mn a c.Cap) 0), .int .i64 (mx (mn b c.Cap) 0)]) 159] := by
  refine Ctr.by layOk Tryd.func108 Tryd.ntmps108 rfl rfl rfl rfl rfl ?_
  repeat' (first
    | (((with_reducible refine gQ0 ?_); (first | ((with_reducible apply q_move); apply Eq.refl) | ((with_reducible apply q_nilCheck); apply Eq.refl) | ((with_reducible apply q_fa layOk); (iterate 5 apply Eq.refl)) | ((with_reducible apply q_load layOk); (iterate 3 apply Eq.refl); (focus (repeat (with_reducible (first | apply lh | apply lt)))); apply Eq.refl) | ((with_reducible apply q_loadr layOk); (iterate 3 apply Eq.refl); (focus (repeat (with_reducible (first | apply lh | apply lt)))); apply Eq.refl) | ((with_reducible apply q_box (k := ks _)); apply Eq.refl; (focus (repeat (with_reducible (first | apply lh | apply lt)))); apply Eq.refl) | ((with_reducible apply isF (f := 132)); (refine q_call0 rfl (span_Clamp _ _ _ _) ?_)) | ((with_reducible apply e_store layOk); (iterate 3 apply Eq.refl); (focus (repeat (with_reducible (first | apply lh | apply lt)))); (iterate 5 apply Eq.refl)))))
    | (((with_reducible refine gR ?_); (first | refine RK.peelN rfl ?_ | refine RK.donef rfl ⟨_, rfl, ?_⟩ | refine RK.donet rfl (by kernel_rfl) ⟨_, rfl, ?_⟩)))
    | (((with_reducible refine gW ?_); (first | with_reducible refine WP.seq ?_ | refine WP.reg mixed (fun ks => _) (fun ks => rfl) (fun ks => ?_) | ((first | (apply cdD; apply Eq.refl) | (apply WP.condE; apply Eq.refl) | (apply WP.condN; apply Eq.refl) | (apply WP.condA; apply Eq.refl)) <;> (intro hc; first | with_reducible exact ff hc | with_reducible exact ff' hc | skip)) | refine WP.ret ?_ | refine WP.skip ?_ | refine WP.exit ?_ | refine WP.goto ?_ | refine WP.label ?_ | refine WP.block ?_)))
    | (with_reducible refine thn_n ?_)
    | (with_reducible refine thn_r ?_)
    | (with_reducible refine thn_e ?_)
    | (with_reducible refine thn_g ?_)
    | (with_reducible refine blk_n ?_)
    | (with_reducible refine blk_r ?_)
    | (with_reducible refine blk_e ?_)
    | (with_reducible refine blk_g ?_)
    | (((with_reducible refine blk_o ?_ ?_); first | exact rfl | skip))
    | (refine Endz.mk' (by first | exact Or.inl rfl | exact Or.inr rfl) (by repeat (first | exact RVs.nil | apply RVs.cons | exact RV1.tmp rfl | exact RV1.row rfl rfl rfl (by repeat (first | exact look_here | apply look_there)) (by exact rfl) | exact RV1.cell rfl rfl rfl (by repeat (first | exact look_here | apply look_there)) (by exact rfl))) (by rfl) (by repeat (first | exact List.nil_sublist _ | exact List.Sublist.refl _ | apply List.Sublist.cons_cons | apply List.Sublist.cons))))
set_option maxHeartbeats 4000000 in
theorem Counter_Q (p : Nat) (c : Cfg) (lo hi : Int) : Ctr Tryd.prog G 105 [.pointer (some ⟨p, 0, none⟩)] [(p, .cells (c.cells ++ [.int .i64 lo, .int .i64 hi]) 159)] (.agg #[.int .i64 lo, .int .i64 hi]) [.cells (c.cells ++ [.int .i64 lo, .int .i64 hi]) 159] := by
  refine Ctr.by layOk Tryd.func105 Tryd.ntmps105 rfl rfl rfl rfl rfl ?_
  repeat' (first
    | (((with_reducible refine gQ0 ?_); (first | ((with_reducible apply q_move); apply Eq.refl) | ((with_reducible apply q_nilCheck); apply Eq.refl) | ((with_reducible apply q_fa layOk); (iterate 5 apply Eq.refl)) | ((with_reducible apply q_load layOk); (iterate 3 apply Eq.refl); (focus (repeat (with_reducible (first | apply lh | apply lt)))); apply Eq.refl) | ((with_reducible apply q_loadr layOk); (iterate 3 apply Eq.refl); (focus (repeat (with_reducible (first | apply lh | apply lt)))); apply Eq.refl) | ((with_reducible apply q_alloc (k := ks _) layOk); apply Eq.refl; (focus (repeat (with_reducible (first | apply lh | apply lt)))); apply Eq.refl) | ((with_reducible apply e_store layOk); (iterate 3 apply Eq.refl); (focus (repeat (with_reducible (first | apply lh | apply lt)))); (iterate 5 apply Eq.refl)))))
    | (((with_reducible refine gR ?_); (first | refine RK.peelN rfl ?_ | refine RK.donef rfl ⟨_, rfl, ?_⟩ | refine RK.donet rfl (by kernel_rfl) ⟨_, rfl, ?_⟩)))
    | (((with_reducible refine gW ?_); (first | with_reducible refine WP.seq ?_ | refine WP.reg mixed (fun ks => _) (fun ks => rfl) (fun ks => ?_) | ((first | (apply cdD; apply Eq.refl) | (apply WP.condE; apply Eq.refl) | (apply WP.condN; apply Eq.refl) | (apply WP.condA; apply Eq.refl)) <;> (intro hc; first | with_reducible exact ff hc | with_reducible exact ff' hc | skip)) | refine WP.ret ?_ | refine WP.skip ?_ | refine WP.exit ?_ | refine WP.goto ?_ | refine WP.label ?_ | refine WP.block ?_)))
    | (with_reducible refine thn_n ?_)
    | (with_reducible refine thn_r ?_)
    | (with_reducible refine thn_e ?_)
    | (with_reducible refine thn_g ?_)
    | (with_reducible refine blk_n ?_)
    | (with_reducible refine blk_r ?_)
    | (with_reducible refine blk_e ?_)
    | (with_reducible refine blk_g ?_)
    | (((with_reducible refine blk_o ?_ ?_); first | exact rfl | skip))
    | (refine Endz.mk' (by first | exact Or.inl rfl | exact Or.inr rfl) (by repeat (first | exact RVs.nil | apply RVs.cons | exact RV1.tmp rfl | exact RV1.row rfl rfl rfl (by repeat (first | exact look_here | apply look_there)) (by exact rfl) | exact RV1.cell rfl rfl rfl (by repeat (first | exact look_here | apply look_there)) (by exact rfl))) (by rfl) (by repeat (first | exact List.nil_sublist _ | exact List.Sublist.refl _ | apply List.Sublist.cons_cons | apply List.Sublist.cons))))
end Go.Proofs.YtlhhcongoplfpaaDoor
namespace Go.Proofs.YtlhhcongoplfpaaDoor
open Go Go.Proofs.YtlhhcongoplfpaaDoorAB
variable {G : Nat}
set_option linter.unusedSimpArgs false
set_option linter.unusedVariables false
def w64 (n : Int) : Int := IntKind.i64.wrap n
def fAdd (a b : Int) : Int := if b > 0 ∧ a > IntKind.i64.wrap (9223372036854775807 - b) then 9223372036854775807 else if b < 0 ∧ a < IntKind.i64.wrap (-9223372036854775808 - b) then -9223372036854775808 else IntKind.i64.wrap (a + b)
def fSub (a b : Int) : Int := if b < 0 ∧ a > IntKind.i64.wrap (9223372036854775807 + b) then 9223372036854775807 else if b > 0 ∧ a < IntKind.i64.wrap (-9223372036854775808 + b) then -9223372036854775808 else IntKind.i64.wrap (a - b)
def rClamp (x lo hi : Int) : Int := if (if x > hi then hi else x) < lo then lo else if x > hi then hi else x
def num (n b : Int) : Int := if n.tmod b < 0 then IntKind.i64.wrap (n.tmod b + b) else n.tmod b
set_option maxHeartbeats 4000000 in
theorem fixed_Add (a b : Int) : Ctr Tryd.prog G 116 [.int .i64 (a), .int .i64 (b)] [] (.int .i64 (fAdd a b)) [] := by
  refine Ctr.by layOk Tryd.func116 Tryd.ntmps116 rfl rfl rfl rfl rfl ?_
  repeat' (first
    | (((first | (with_reducible refine gQ0 ?_) | ((with_reducible refine gQ1 ?_ ?_); (focus (apply wg (r := true); (iterate 6 apply Eq.refl))))); (first | ((with_reducible apply q_move); apply Eq.refl) | ((with_reducible apply q_assign); apply Eq.refl) | ((with_reducible apply q_int); (iterate 3 apply Eq.refl)) | ((with_reducible apply q_pick_t); (iterate 2 apply Eq.refl)) | ((with_reducible apply q_pick_f); (iterate 2 apply Eq.refl)))))
    | (((with_reducible refine gR ?_); (first | refine RK.peelN rfl ?_ | refine RK.donef rfl ⟨_, rfl, ?_⟩ | refine RK.donet rfl (by kernel_rfl) ⟨_, rfl, ?_⟩)))
    | ((first | (with_reducible refine gQv ?_ ?_) | (with_reducible refine gQe ?_ ?_)); (focus (first | (apply wg (r := false); (iterate 6 apply Eq.refl)) | (apply wz; (iterate 4 apply Eq.refl)))))
    | ((with_reducible refine gK ?_); ((first | (apply gsD; (iterate 4 apply Eq.refl)) | (apply RKo.gsplitE; (iterate 4 apply Eq.refl)) | (apply RKo.gsplitN; (iterate 4 apply Eq.refl)) | (apply RKo.gsplit; (iterate 4 apply Eq.refl))) <;> (intro hc; first | with_reducible exact ff hc | with_reducible exact ff' hc | skip)))
    | (((with_reducible refine gW ?_); (first | with_reducible refine WP.seq ?_ | refine WP.reg mixed (fun ks => _) (fun ks => rfl) (fun ks => ?_) | ((first | (apply cdD; apply Eq.refl) | (apply WP.condE; apply Eq.refl) | (apply WP.condN; apply Eq.refl) | (apply WP.condA; apply Eq.refl)) <;> (intro hc; first | with_reducible exact ff hc | with_reducible exact ff' hc | skip)) | refine WP.ret ?_ | refine WP.skip ?_ | refine WP.exit ?_ | refine WP.goto ?_ | refine WP.label ?_ | refine WP.block ?_)))
    | (with_reducible refine thn_n ?_)
    | (with_reducible refine thn_r ?_)
    | (with_reducible refine thn_e ?_)
    | (with_reducible refine thn_g ?_)
    | (with_reducible refine blk_n ?_)
    | (with_reducible refine blk_r ?_)
    | (with_reducible refine blk_e ?_)
    | (with_reducible refine blk_g ?_)
    | (((with_reducible refine blk_o ?_ ?_); first | exact rfl | skip))
    | (refine Endz.mk' (by first | exact Or.inl rfl | exact Or.inr rfl) (by repeat (first | exact RVs.nil | apply RVs.cons | exact RV1.tmp rfl | exact RV1.row rfl rfl rfl (by repeat (first | exact look_here | apply look_there)) (by exact rfl) | exact RV1.cell rfl rfl rfl (by repeat (first | exact look_here | apply look_there)) (by exact rfl))) (by first | rfl | (simp [tup, fAdd, *]; done) | (simp_all [tup, fAdd]; done)) (by repeat (first | exact List.nil_sublist _ | exact List.Sublist.refl _ | apply List.Sublist.cons_cons | apply List.Sublist.cons))))
set_option maxHeartbeats 4000000 in
theorem fixed_Sub (a b : Int) : Ctr Tryd.prog G 123 [.int .i64 (a), .int .i64 (b)] [] (.int .i64 (fSub a b)) [] := by
  refine Ctr.by layOk Tryd.func123 Tryd.ntmps123 rfl rfl rfl rfl rfl ?_
  repeat' (first
    | (((first | (with_reducible refine gQ0 ?_) | ((with_reducible refine gQ1 ?_ ?_); (focus (apply wg (r := true); (iterate 6 apply Eq.refl))))); (first | ((with_reducible apply q_move); apply Eq.refl) | ((with_reducible apply q_assign); apply Eq.refl) | ((with_reducible apply q_int); (iterate 3 apply Eq.refl)) | ((with_reducible apply q_pick_t); (iterate 2 apply Eq.refl)) | ((with_reducible apply q_pick_f); (iterate 2 apply Eq.refl)))))
    | (((with_reducible refine gR ?_); (first | refine RK.peelN rfl ?_ | refine RK.donef rfl ⟨_, rfl, ?_⟩ | refine RK.donet rfl (by kernel_rfl) ⟨_, rfl, ?_⟩)))
    | ((first | (with_reducible refine gQv ?_ ?_) | (with_reducible refine gQe ?_ ?_)); (focus (first | (apply wg (r := false); (iterate 6 apply Eq.refl)) | (apply wz; (iterate 4 apply Eq.refl)))))
    | ((with_reducible refine gK ?_); ((first | (apply gsD; (iterate 4 apply Eq.refl)) | (apply RKo.gsplitE; (iterate 4 apply Eq.refl)) | (apply RKo.gsplitN; (iterate 4 apply Eq.refl)) | (apply RKo.gsplit; (iterate 4 apply Eq.refl))) <;> (intro hc; first | with_reducible exact ff hc | with_reducible exact ff' hc | skip)))
    | (((with_reducible refine gW ?_); (first | with_reducible refine WP.seq ?_ | refine WP.reg mixed (fun ks => _) (fun ks => rfl) (fun ks => ?_) | ((first | (apply cdD; apply Eq.refl) | (apply WP.condE; apply Eq.refl) | (apply WP.condN; apply Eq.refl) | (apply WP.condA; apply Eq.refl)) <;> (intro hc; first | with_reducible exact ff hc | with_reducible exact ff' hc | skip)) | refine WP.ret ?_ | refine WP.skip ?_ | refine WP.exit ?_ | refine WP.goto ?_ | refine WP.label ?_ | refine WP.block ?_)))
    | (with_reducible refine thn_n ?_)
    | (with_reducible refine thn_r ?_)
    | (with_reducible refine thn_e ?_)
    | (with_reducible refine thn_g ?_)
    | (with_reducible refine blk_n ?_)
    | (with_reducible refine blk_r ?_)
    | (with_reducible refine blk_e ?_)
    | (with_reducible refine blk_g ?_)
    | (((with_reducible refine blk_o ?_ ?_); first | exact rfl | skip))
    | (refine Endz.mk' (by first | exact Or.inl rfl | exact Or.inr rfl) (by repeat (first | exact RVs.nil | apply RVs.cons | exact RV1.tmp rfl | exact RV1.row rfl rfl rfl (by repeat (first | exact look_here | apply look_there)) (by exact rfl) | exact RV1.cell rfl rfl rfl (by repeat (first | exact look_here | apply look_there)) (by exact rfl))) (by first | rfl | (simp [tup, fSub, *]; done) | (simp_all [tup, fSub]; done)) (by repeat (first | exact List.nil_sublist _ | exact List.Sublist.refl _ | apply List.Sublist.cons_cons | apply List.Sublist.cons))))
set_option maxHeartbeats 4000000 in
theorem ref_Clamp (x lo hi : Int) : Ctr Tryd.prog G 85 [.int .i64 (x), .int .i64 (lo), .int .i64 (hi)] [] (.int .i64 (rClamp x lo hi)) [] := by
  refine Ctr.by layOk Tryd.func85 Tryd.ntmps85 rfl rfl rfl rfl rfl ?_
  repeat' (first
    | (((with_reducible refine gQ0 ?_); (first | ((with_reducible apply q_move); apply Eq.refl) | ((with_reducible apply q_assign); apply Eq.refl) | ((with_reducible apply q_int); (iterate 3 apply Eq.refl)))))
    | (((with_reducible refine gR ?_); (first | refine RK.peelN rfl ?_ | refine RK.donef rfl ⟨_, rfl, ?_⟩ | refine RK.donet rfl (by kernel_rfl) ⟨_, rfl, ?_⟩)))
    | (((with_reducible refine gW ?_); (first | with_reducible refine WP.seq ?_ | refine WP.reg mixed (fun ks => _) (fun ks => rfl) (fun ks => ?_) | ((first | (apply cdD; apply Eq.refl) | (apply WP.condE; apply Eq.refl) | (apply WP.condN; apply Eq.refl) | (apply WP.condA; apply Eq.refl)) <;> (intro hc; first | with_reducible exact ff hc | with_reducible exact ff' hc | skip)) | refine WP.ret ?_ | refine WP.skip ?_ | refine WP.exit ?_ | refine WP.goto ?_ | refine WP.label ?_ | refine WP.block ?_)))
    | (with_reducible refine thn_n ?_)
    | (with_reducible refine thn_r ?_)
    | (with_reducible refine thn_e ?_)
    | (with_reducible refine thn_g ?_)
    | (with_reducible refine blk_n ?_)
    | (with_reducible refine blk_r ?_)
    | (with_reducible refine blk_e ?_)
    | (with_reducible refine blk_g ?_)
    | (((with_reducible refine blk_o ?_ ?_); first | exact rfl | skip))
    | (refine Endz.mk' (by first | exact Or.inl rfl | exact Or.inr rfl) (by repeat (first | exact RVs.nil | apply RVs.cons | exact RV1.tmp rfl | exact RV1.row rfl rfl rfl (by repeat (first | exact look_here | apply look_there)) (by exact rfl) | exact RV1.cell rfl rfl rfl (by repeat (first | exact look_here | apply look_there)) (by exact rfl))) (by first | rfl | (simp [tup, rClamp, *]; done) | (simp_all [tup, rClamp]; done)) (by repeat (first | exact List.nil_sublist _ | exact List.Sublist.refl _ | apply List.Sublist.cons_cons | apply List.Sublist.cons))))
set_option maxHeartbeats 4000000 in
theorem world_Number (n b : Int) (hb : b ≠ 0) : Ctr Tryd.prog G 34 [.int .i64 (n), .int .i64 (b)] [] (.int .i64 (num n b)) [] := by
  refine Ctr.by layOk Tryd.func34 Tryd.ntmps34 rfl rfl rfl rfl rfl ?_
  repeat' (first
    | (((with_reducible refine gQ0 ?_); (first | ((with_reducible apply q_move); apply Eq.refl) | ((with_reducible apply q_assign); apply Eq.refl) | ((with_reducible apply q_int); (iterate 3 apply Eq.refl)) | ((with_reducible apply q_rem); (iterate 2 apply Eq.refl); exact hb))))
    | (((with_reducible refine gR ?_); (first | refine RK.peelN rfl ?_ | refine RK.donef rfl ⟨_, rfl, ?_⟩ | refine RK.donet rfl (by kernel_rfl) ⟨_, rfl, ?_⟩)))
    | (((with_reducible refine gW ?_); (first | with_reducible refine WP.seq ?_ | refine WP.reg mixed (fun ks => _) (fun ks => rfl) (fun ks => ?_) | ((first | (apply cdD; apply Eq.refl) | (apply WP.condE; apply Eq.refl) | (apply WP.condN; apply Eq.refl) | (apply WP.condA; apply Eq.refl)) <;> (intro hc; first | with_reducible exact ff hc | with_reducible exact ff' hc | skip)) | refine WP.ret ?_ | refine WP.skip ?_ | refine WP.exit ?_ | refine WP.goto ?_ | refine WP.label ?_ | refine WP.block ?_)))
    | (with_reducible refine thn_n ?_)
    | (with_reducible refine thn_r ?_)
    | (with_reducible refine thn_e ?_)
    | (with_reducible refine thn_g ?_)
    | (with_reducible refine blk_n ?_)
    | (with_reducible refine blk_r ?_)
    | (with_reducible refine blk_e ?_)
    | (with_reducible refine blk_g ?_)
    | (((with_reducible refine blk_o ?_ ?_); first | exact rfl | skip))
    | (refine Endz.mk' (by first | exact Or.inl rfl | exact Or.inr rfl) (by repeat (first | exact RVs.nil | apply RVs.cons | exact RV1.tmp rfl | exact RV1.row rfl rfl rfl (by repeat (first | exact look_here | apply look_there)) (by exact rfl) | exact RV1.cell rfl rfl rfl (by repeat (first | exact look_here | apply look_there)) (by exact rfl))) (by first | rfl | (simp [tup, num, *]; done) | (simp_all [tup, num]; done)) (by repeat (first | exact List.nil_sublist _ | exact List.Sublist.refl _ | apply List.Sublist.cons_cons | apply List.Sublist.cons))))
end Go.Proofs.YtlhhcongoplfpaaDoor
namespace Go.Proofs.YtlhhcongoplfpaaDoor
open Go Go.Proofs.YtlhhcongoplfpaaDoorAB
variable {G : Nat}
set_option linter.unusedSimpArgs false
set_option linter.unusedVariables false

theorem wrap_in {x : Int} (h1 : -9223372036854775808 ≤ x) (h2 : x < 9223372036854775808) : IntKind.i64.wrap x = x := by
  rw [IntKind.wrap_i64]; omega
def n20 (n : Int) : Int := num n 1048576
def cnt (m : Int) : Int := (w64 ((n20 m).tdiv 20)).tmod 7
def feed (k : Int) (i : Int) : List Value := [I64 (w64 (4 + (w64 (i + w64 ((n20 k).tdiv 8))).tmod 3)), I64 (w64 (50 + w64 (60 * (w64 (w64 ((n20 k).tdiv 24) + i)).tmod 5))), I64 ((w64 (w64 ((n20 k).tdiv 120) + w64 (i * i))).tmod 4)]
def feeds (k : Int) : Nat → List Value
  | 0 => []
  | n + 1 => feeds k n ++ feed k n
theorem feeds_len (k : Int) (n : Nat) : (feeds k n).length = n * 3 := by
  induction n with
  | zero => rfl
  | succ n ih => simp [feeds, ih, feed]; omega
def cfgOf (n m k : Int) (oc : Option Addr) (fa : Option Addr) (fl fc : Nat) : Cfg where
  D := w64 (1 + (n20 n).tmod 4)
  B := w64 (1 + (w64 ((n20 n).tdiv 4)).tmod 3)
  S := w64 (1 + (w64 ((n20 n).tdiv 12)).tmod 4)
  P := w64 (1 + (w64 ((n20 n).tdiv 48)).tmod 9)
  H := w64 (1 + (w64 ((n20 n).tdiv 432)).tmod 5)
  Cap := 100000
  Qmin := 0
  Imax := 500
  Trip := 20000
  Vmin := 10000
  Vdark := 12000
  CellMin := 3000
  CellMax := 4200
  CellGap := 300
  TempMax := 600
  Coil := 1000
  Ohm := 20
  SagErr := 100
  AmpErr := (n20 m).tmod 5
  Drift := 50
  ocA := oc
  ocL := 4
  ocC := 4
  GenMax := 3000
  BatMax := 500
  ExtMax := 3000
  Eland := w64 (1000 * (n20 k).tmod 8)
  Margin := w64 (500 + w64 ((w64 ((n20 m).tdiv 5)).tmod 4 * 500))
  fdA := fa
  fdL := fl
  fdC := fc
def ocv : List Value := [I64 0, I64 20000, I64 20000, I64 23000, I64 80000, I64 25000, I64 100000, I64 28000]
def zcfg : List Value := [I64 0, I64 0, I64 0, I64 0, I64 0, I64 0, I64 0, I64 0, I64 0, I64 0, I64 0, I64 0, I64 0, I64 0, I64 0, I64 0, I64 0, I64 0, I64 0, I64 0, .slice none 0 0, I64 0, I64 0, I64 0, I64 0, I64 0, .slice none 0 0]
set_option maxHeartbeats 4000000 in
theorem make_Config0 (n m k : Int) (k1 : Nat) (hno : ¬ ((0 : Int) < cnt m)) : Ctr Tryd.prog G 41 [I64 n, I64 m, I64 k] [(k1, .gone)] (.agg ⟨(cfgOf n m k (some ⟨k1, 0, none⟩) none 0 0).cells⟩) [.cells ocv 27] := by
  refine Ctr.by layOk Tryd.func41 Tryd.ntmps41 rfl rfl rfl rfl rfl ?_
  repeat' (first
    | (((with_reducible refine gQ0 ?_); (first | ((with_reducible apply q_move); apply Eq.refl) | ((with_reducible apply q_assign); apply Eq.refl) | ((with_reducible apply q_int); (iterate 3 apply Eq.refl)) | ((with_reducible apply q_fa layOk); (iterate 5 apply Eq.refl)) | ((with_reducible apply q_load layOk); (iterate 3 apply Eq.refl); (focus (repeat (with_reducible (first | apply lh | apply lt)))); apply Eq.refl) | ((with_reducible apply q_loadr layOk); (iterate 3 apply Eq.refl); (focus (repeat (with_reducible (first | apply lh | apply lt)))); apply Eq.refl) | ((with_reducible apply q_build layOk); (iterate 4 apply Eq.refl)) | ((with_reducible apply q_alloc (k := ks _) layOk); apply Eq.refl; (focus (repeat (with_reducible (first | apply lh | apply lt)))); apply Eq.refl) | ((with_reducible apply q_rem); (iterate 2 apply Eq.refl); (focus (decide))) | ((with_reducible apply q_quo); (iterate 2 apply Eq.refl); (focus (decide))) | ((with_reducible apply q_conv); apply Eq.refl; exact Tryd.underlying3; exact Tryd.underlying2) | ((with_reducible apply q_buildS (k := k1) layOk); (iterate 8 apply Eq.refl); (focus (repeat (with_reducible (first | apply lh | apply lt)))); apply Eq.refl) | ((with_reducible apply isF (f := 34)); (refine q_call0 rfl (world_Number _ _ (by decide)) ?_)) | ((with_reducible apply e_store layOk); (iterate 3 apply Eq.refl); (focus (repeat (with_reducible (first | apply lh | apply lt)))); (iterate 5 apply Eq.refl)))))
    | (((with_reducible refine gR ?_); (first | refine RK.peelN rfl ?_ | refine RK.donef rfl ⟨_, rfl, ?_⟩ | refine RK.donet rfl (by kernel_rfl) ⟨_, rfl, ?_⟩)))
    | (((with_reducible refine gW ?_); (first | with_reducible refine WP.seq ?_ | refine WP.reg mixed (fun ks => _) (fun ks => rfl) (fun ks => ?_) | ((first | (apply cdD; apply Eq.refl) | (apply WP.condE; apply Eq.refl) | (apply WP.condN; apply Eq.refl) | (apply WP.condA; apply Eq.refl)) <;> (intro hc; first | with_reducible exact ff hc | with_reducible exact ff' hc | skip)) | refine WP.ret ?_ | refine WP.skip ?_ | refine WP.exit ?_ | refine WP.goto ?_ | refine WP.label ?_ | refine WP.block ?_)))
    | (with_reducible refine thn_n ?_)
    | (with_reducible refine thn_r ?_)
    | (with_reducible refine thn_e ?_)
    | (with_reducible refine thn_g ?_)
    | (with_reducible refine blk_n ?_)
    | (with_reducible refine blk_r ?_)
    | (with_reducible refine blk_e ?_)
    | (with_reducible refine blk_g ?_)
    | (((with_reducible refine blk_o ?_ ?_); first | exact rfl | skip))
    | (refine Endz.mk' (by first | exact Or.inl rfl | exact Or.inr rfl) (by repeat (first | exact RVs.nil | apply RVs.cons | exact RV1.tmp rfl | exact RV1.row rfl rfl rfl (by repeat (first | exact look_here | apply look_there)) (by exact rfl) | exact RV1.cell rfl rfl rfl (by repeat (first | exact look_here | apply look_there)) (by exact rfl))) (by rfl) (by repeat (first | exact List.nil_sublist _ | exact List.Sublist.refl _ | apply List.Sublist.cons_cons | apply List.Sublist.cons))))
  rename_i a0 a1 a2 a3 a4 a5
  refine WP.loopI (α := Unit) (fun _ => [(1, some (I64 (n20 m))), (2, some (I64 (n20 k))), (6, some (.pointer (some ⟨a0 0, 0, none⟩))), (7, some (.pointer (some ⟨a4 0, 0, none⟩))), (8, some (I64 0))])
    (fun _ => [(k1, .cells ocv 27), (a0 0, .cells zcfg 51), (a4 0, .cells (cfgOf n m k (some ⟨k1, 0, none⟩) none 0 0).cells 51)]) (fun _ => True) (fun _ => 0) () (Wk.of ⟨rfl, rfl, rfl, rfl, rfl, trivial⟩ (by repeat (first | exact List.nil_sublist _ | exact List.Sublist.refl _ | apply List.Sublist.cons_cons | apply List.Sublist.cons))) trivial (fun x ix => ?_)
  repeat' (first
    | (((with_reducible refine gQ0 ?_); (first | ((with_reducible apply q_move); apply Eq.refl) | ((with_reducible apply q_assign); apply Eq.refl) | ((with_reducible apply q_int); (iterate 3 apply Eq.refl)) | ((with_reducible apply q_fa layOk); (iterate 5 apply Eq.refl)) | ((with_reducible apply q_load layOk); (iterate 3 apply Eq.refl); (focus (repeat (with_reducible (first | apply lh | apply lt)))); apply Eq.refl) | ((with_reducible apply q_loadr layOk); (iterate 3 apply Eq.refl); (focus (repeat (with_reducible (first | apply lh | apply lt)))); apply Eq.refl) | ((with_reducible apply q_build layOk); (iterate 4 apply Eq.refl)) | ((with_reducible apply q_alloc (k := ks _) layOk); apply Eq.refl; (focus (repeat (with_reducible (first | apply lh | apply lt)))); apply Eq.refl) | ((with_reducible apply q_rem); (iterate 2 apply Eq.refl); (focus (decide))) | ((with_reducible apply q_quo); (iterate 2 apply Eq.refl); (focus (decide))) | ((with_reducible apply q_conv); apply Eq.refl; exact Tryd.underlying3; exact Tryd.underlying2) | ((with_reducible apply q_buildS (k := ks _) layOk); (iterate 8 apply Eq.refl); (focus (repeat (with_reducible (first | apply lh | apply lt)))); apply Eq.refl) | ((with_reducible apply q_app0 (kn := ks _) layOk); (iterate 10 apply Eq.refl); (focus (repeat (with_reducible (first | apply lh | apply lt)))); (focus (repeat (with_reducible (first | apply lh | apply lt)))); (iterate 2 apply Eq.refl)) | ((with_reducible apply q_app1 (kn := ks _) layOk); (iterate 9 apply Eq.refl); (focus (repeat (with_reducible (first | apply lh | apply lt)))); (focus (repeat (with_reducible (first | apply lh | apply lt)))); (focus (repeat (with_reducible (first | apply lh | apply lt)))); (focus (decide)); (focus (show (i + 1 + 1) * 24 ≤ 1099511627776; omega)); (focus (show i + 1 + 1 ≤ 1099511627776; omega)); (focus (exact feeds_len _ _)); (iterate 3 apply Eq.refl)) | ((with_reducible apply isF (f := 34)); (refine q_call0 rfl (world_Number _ _ (by decide)) ?_)) | ((with_reducible apply e_store layOk); (iterate 3 apply Eq.refl); (focus (repeat (with_reducible (first | apply lh | apply lt)))); (iterate 5 apply Eq.refl)))))
    | (((with_reducible refine gR ?_); (first | refine RK.peelN rfl ?_ | refine RK.donef rfl ⟨_, rfl, ?_⟩ | refine RK.donet rfl (by kernel_rfl) ⟨_, rfl, ?_⟩)))
    | (((with_reducible refine gW ?_); (first | with_reducible refine WP.seq ?_ | refine WP.reg mixed (fun ks => _) (fun ks => rfl) (fun ks => ?_) | ((first | (apply cdD; apply Eq.refl) | (apply WP.condE; apply Eq.refl) | (apply WP.condN; apply Eq.refl) | (apply WP.condA; apply Eq.refl)) <;> (intro hc; first | with_reducible exact ff hc | with_reducible exact ff' hc | exact absurd hc hno | skip)) | refine WP.ret ?_ | refine WP.skip ?_ | refine WP.exit ?_ | refine WP.goto ?_ | refine WP.label ?_ | refine WP.block ?_)))
    | (with_reducible refine thn_n ?_)
    | (with_reducible refine thn_r ?_)
    | (with_reducible refine thn_e ?_)
    | (with_reducible refine thn_g ?_)
    | (with_reducible refine blk_n ?_)
    | (with_reducible refine blk_r ?_)
    | (with_reducible refine blk_e ?_)
    | (with_reducible refine blk_g ?_)
    | (((with_reducible refine blk_o ?_ ?_); first | exact rfl | skip))
    | (refine Endz.mk' (by first | exact Or.inl rfl | exact Or.inr rfl) (by repeat (first | exact RVs.nil | apply RVs.cons | exact RV1.tmp rfl | exact RV1.row rfl rfl rfl (by repeat (first | exact look_here | apply look_there)) (by exact rfl) | exact RV1.cell rfl rfl rfl (by repeat (first | exact look_here | apply look_there)) (by exact rfl))) (by rfl) (by repeat (first | exact List.nil_sublist _ | exact List.Sublist.refl _ | apply List.Sublist.cons_cons | apply List.Sublist.cons))))

set_option maxHeartbeats 8000000 in
theorem make_Config1 (n m k : Int) (k1 k2 : Nat) (hpos : (0 : Int) < cnt m) : Ctr Tryd.prog G 41 [I64 n, I64 m, I64 k] ([(k1, .gone)] ++ [(k2, .gone)]) (.agg ⟨(cfgOf n m k (some ⟨k1, 0, none⟩) (some ⟨k2, 0, none⟩) (cnt m).toNat grown).cells⟩) ([.cells ocv 27] ++ [.row (feeds k (cnt m).toNat) 97 3]) := by
  have hc7 : cnt m < 7 := by unfold cnt; exact Int.tmod_lt_of_pos _ (by decide)
  refine Ctr.ren layOk Tryd.func41 Tryd.ntmps41 rfl rfl rfl rfl rfl ?_
  repeat' (first
    | (((with_reducible refine gQ0 ?_); (first | ((with_reducible apply q_move); apply Eq.refl) | ((with_reducible apply q_assign); apply Eq.refl) | ((with_reducible apply q_int); (iterate 3 apply Eq.refl)) | ((with_reducible apply q_fa layOk); (iterate 5 apply Eq.refl)) | ((with_reducible apply q_load layOk); (iterate 3 apply Eq.refl); (focus (repeat (with_reducible (first | apply lh | apply lt)))); apply Eq.refl) | ((with_reducible apply q_loadr layOk); (iterate 3 apply Eq.refl); (focus (repeat (with_reducible (first | apply lh | apply lt)))); apply Eq.refl) | ((with_reducible apply q_build layOk); (iterate 4 apply Eq.refl)) | ((with_reducible apply q_alloc (k := ks _) layOk); apply Eq.refl; (focus (repeat (with_reducible (first | apply lh | apply lt)))); apply Eq.refl) | ((with_reducible apply q_rem); (iterate 2 apply Eq.refl); (focus (decide))) | ((with_reducible apply q_quo); (iterate 2 apply Eq.refl); (focus (decide))) | ((with_reducible apply q_conv); apply Eq.refl; exact Tryd.underlying3; exact Tryd.underlying2) | ((with_reducible apply q_buildS (k := k1) layOk); (iterate 8 apply Eq.refl); (focus (repeat (with_reducible (first | apply lh | apply lt)))); apply Eq.refl) | ((with_reducible apply isF (f := 34)); (refine q_call0 rfl (world_Number _ _ (by decide)) ?_)) | ((with_reducible apply e_store layOk); (iterate 3 apply Eq.refl); (focus (repeat (with_reducible (first | apply lh | apply lt)))); (iterate 5 apply Eq.refl)))))
    | (((with_reducible refine gR ?_); (first | refine RK.peelN rfl ?_ | refine RK.donef rfl ⟨_, rfl, ?_⟩ | refine RK.donet rfl (by kernel_rfl) ⟨_, rfl, ?_⟩)))
    | (((with_reducible refine gW ?_); (first | with_reducible refine WP.seq ?_ | refine WP.reg mixed (fun ks => _) (fun ks => rfl) (fun ks => ?_) | ((first | (apply cdD; apply Eq.refl) | (apply WP.condE; apply Eq.refl) | (apply WP.condN; apply Eq.refl) | (apply WP.condA; apply Eq.refl)) <;> (intro hc; first | with_reducible exact ff hc | with_reducible exact ff' hc | skip)) | refine WP.ret ?_ | refine WP.skip ?_ | refine WP.exit ?_ | refine WP.goto ?_ | refine WP.label ?_ | refine WP.block ?_)))
    | (with_reducible refine thn_n ?_)
    | (with_reducible refine thn_r ?_)
    | (with_reducible refine thn_e ?_)
    | (with_reducible refine thn_g ?_)
    | (with_reducible refine blk_n ?_)
    | (with_reducible refine blk_r ?_)
    | (with_reducible refine blk_e ?_)
    | (with_reducible refine blk_g ?_)
    | (((with_reducible refine blk_o ?_ ?_); first | exact rfl | skip))
    | (refine Endz.mk' (by first | exact Or.inl rfl | exact Or.inr rfl) (by repeat (first | exact RVs.nil | apply RVs.cons | exact RV1.tmp rfl | exact RV1.row rfl rfl rfl (by repeat (first | exact look_here | apply look_there)) (by exact rfl) | exact RV1.cell rfl rfl rfl (by repeat (first | exact look_here | apply look_there)) (by exact rfl))) (by rfl) (by repeat (first | exact List.nil_sublist _ | exact List.Sublist.refl _ | apply List.Sublist.cons_cons | apply List.Sublist.cons))))
  rename_i a0 a1 a2 a3 a4 a5
  refine WP.loopI (α := Option (Nat × Nat)) (fun x => match x with
    | none => [(1, some (I64 (n20 m))), (2, some (I64 (n20 k))), (6, some (.pointer (some ⟨a0 0, 0, none⟩))), (7, some (.pointer (some ⟨a4 0, 0, none⟩))), (8, some (I64 0))]
    | some (i, _) => [(1, some (I64 (n20 m))), (2, some (I64 (n20 k))), (6, some (.pointer (some ⟨a0 0, 0, none⟩))), (7, some (.pointer (some ⟨a4 0, 0, none⟩))), (8, some (I64 ((i + 1 : Nat) : Int)))])
    (fun x => match x with
    | none => [(k1, .cells ocv 27), (k2, .gone), (a0 0, .cells zcfg 51), (a4 0, .cells (cfgOf n m k (some ⟨k1, 0, none⟩) none 0 0).cells 51)]
    | some (i, kf) => [(k1, .cells ocv 27), (k2, .gone), (a0 0, .cells zcfg 51), (a4 0, .cells (cfgOf n m k (some ⟨k1, 0, none⟩) (some ⟨kf, 0, none⟩) (i + 1) grown).cells 51), (kf, .row (feeds k (i + 1)) 97 3)])
    (fun x => match x with
    | none => True
    | some (i, _) => ((i + 1 : Nat) : Int) ≤ cnt m) (fun x => match x with
    | none => 8
    | some (i, _) => 7 - i) none (Wk.of ⟨rfl, rfl, rfl, rfl, rfl, trivial⟩ (by repeat (first | exact List.nil_sublist _ | exact List.Sublist.refl _ | apply List.Sublist.cons_cons | apply List.Sublist.cons))) trivial (fun x ix => ?_)
  rcases x with _ | ⟨i, kf⟩
  · dsimp only
    repeat' (first
      | (((with_reducible refine gQ0 ?_); (first | ((with_reducible apply q_move); apply Eq.refl) | ((with_reducible apply q_assign); apply Eq.refl) | ((with_reducible apply q_int); (iterate 3 apply Eq.refl)) | ((with_reducible apply q_fa layOk); (iterate 5 apply Eq.refl)) | ((with_reducible apply q_load layOk); (iterate 3 apply Eq.refl); (focus (repeat (with_reducible (first | apply lh | apply lt)))); apply Eq.refl) | ((with_reducible apply q_loadr layOk); (iterate 3 apply Eq.refl); (focus (repeat (with_reducible (first | apply lh | apply lt)))); apply Eq.refl) | ((with_reducible apply q_build layOk); (iterate 4 apply Eq.refl)) | ((with_reducible apply q_alloc (k := ks _) layOk); apply Eq.refl; (focus (repeat (with_reducible (first | apply lh | apply lt)))); apply Eq.refl) | ((with_reducible apply q_rem); (iterate 2 apply Eq.refl); (focus (decide))) | ((with_reducible apply q_quo); (iterate 2 apply Eq.refl); (focus (decide))) | ((with_reducible apply q_conv); apply Eq.refl; exact Tryd.underlying3; exact Tryd.underlying2) | ((with_reducible apply q_buildS (k := ks _) layOk); (iterate 8 apply Eq.refl); (focus (repeat (with_reducible (first | apply lh | apply lt)))); apply Eq.refl) | ((with_reducible apply q_app0 (kn := ks _) layOk); (iterate 10 apply Eq.refl); (focus (repeat (with_reducible (first | apply lh | apply lt)))); (focus (repeat (with_reducible (first | apply lh | apply lt)))); (iterate 2 apply Eq.refl)) | ((with_reducible apply q_app1 (kn := ks _) layOk); (iterate 9 apply Eq.refl); (focus (repeat (with_reducible (first | apply lh | apply lt)))); (focus (repeat (with_reducible (first | apply lh | apply lt)))); (focus (repeat (with_reducible (first | apply lh | apply lt)))); (focus (decide)); (focus (show (i + 1 + 1) * 24 ≤ 1099511627776; omega)); (focus (show i + 1 + 1 ≤ 1099511627776; omega)); (focus (exact feeds_len _ _)); (iterate 3 apply Eq.refl)) | ((with_reducible apply isF (f := 34)); (refine q_call0 rfl (world_Number _ _ (by decide)) ?_)) | ((with_reducible apply e_store layOk); (iterate 3 apply Eq.refl); (focus (repeat (with_reducible (first | apply lh | apply lt)))); (iterate 5 apply Eq.refl)))))
      | (((with_reducible refine gR ?_); (first | refine RK.peelN rfl ?_ | refine RK.donef rfl ⟨_, rfl, ?_⟩ | refine RK.donet rfl (by kernel_rfl) ⟨_, rfl, ?_⟩)))
      | (((with_reducible refine gW ?_); (first | with_reducible refine WP.seq ?_ | refine WP.reg mixed (fun ks => _) (fun ks => rfl) (fun ks => ?_) | ((first | (apply cdD; apply Eq.refl) | (apply WP.condE; apply Eq.refl) | (apply WP.condN; apply Eq.refl) | (apply WP.condA; apply Eq.refl)) <;> (intro hc; first | with_reducible exact ff hc | with_reducible exact ff' hc | exact absurd hpos hc | skip)) | refine WP.ret ?_ | refine WP.skip ?_ | refine WP.exit ?_ | refine WP.goto ?_ | refine WP.label ?_ | refine WP.block ?_)))
      | (with_reducible refine thn_n ?_)
      | (with_reducible refine thn_r ?_)
      | (with_reducible refine thn_e ?_)
      | (with_reducible refine thn_g ?_)
      | (with_reducible refine blk_n ?_)
      | (with_reducible refine blk_r ?_)
      | (with_reducible refine blk_e ?_)
      | (with_reducible refine blk_g ?_)
      | (((with_reducible refine blk_o ?_ ?_); first | exact rfl | skip))
      | (refine Endz.mk' (by first | exact Or.inl rfl | exact Or.inr rfl) (by repeat (first | exact RVs.nil | apply RVs.cons | exact RV1.tmp rfl | exact RV1.row rfl rfl rfl (by repeat (first | exact look_here | apply look_there)) (by exact rfl) | exact RV1.cell rfl rfl rfl (by repeat (first | exact look_here | apply look_there)) (by exact rfl))) (by rfl) (by repeat (first | exact List.nil_sublist _ | exact List.Sublist.refl _ | apply List.Sublist.cons_cons | apply List.Sublist.cons))))
    refine ⟨some (0, _), by show ((0 + 1 : Nat) : Int) ≤ cnt m; omega, by show 7 - 0 < 8; omega, Wk.of ⟨rfl, rfl, rfl, rfl, rfl, trivial⟩ (by repeat (first | exact List.nil_sublist _ | exact List.Sublist.refl _ | apply List.Sublist.cons_cons | apply List.Sublist.cons))⟩
  · have ix : ((i + 1 : Nat) : Int) ≤ cnt m := ix
    dsimp only
    repeat' (first
      | (((with_reducible refine gQ0 ?_); (first | ((with_reducible apply q_move); apply Eq.refl) | ((with_reducible apply q_assign); apply Eq.refl) | ((with_reducible apply q_int); (iterate 3 apply Eq.refl)) | ((with_reducible apply q_fa layOk); (iterate 5 apply Eq.refl)) | ((with_reducible apply q_load layOk); (iterate 3 apply Eq.refl); (focus (repeat (with_reducible (first | apply lh | apply lt)))); apply Eq.refl) | ((with_reducible apply q_loadr layOk); (iterate 3 apply Eq.refl); (focus (repeat (with_reducible (first | apply lh | apply lt)))); apply Eq.refl) | ((with_reducible apply q_build layOk); (iterate 4 apply Eq.refl)) | ((with_reducible apply q_alloc (k := ks _) layOk); apply Eq.refl; (focus (repeat (with_reducible (first | apply lh | apply lt)))); apply Eq.refl) | ((with_reducible apply q_rem); (iterate 2 apply Eq.refl); (focus (decide))) | ((with_reducible apply q_quo); (iterate 2 apply Eq.refl); (focus (decide))) | ((with_reducible apply q_conv); apply Eq.refl; exact Tryd.underlying3; exact Tryd.underlying2) | ((with_reducible apply q_buildS (k := ks _) layOk); (iterate 8 apply Eq.refl); (focus (repeat (with_reducible (first | apply lh | apply lt)))); apply Eq.refl) | ((with_reducible apply q_app0 (kn := ks _) layOk); (iterate 10 apply Eq.refl); (focus (repeat (with_reducible (first | apply lh | apply lt)))); (focus (repeat (with_reducible (first | apply lh | apply lt)))); (iterate 2 apply Eq.refl)) | ((with_reducible apply q_app1 (kn := ks _) layOk); (iterate 9 apply Eq.refl); (focus (repeat (with_reducible (first | apply lh | apply lt)))); (focus (repeat (with_reducible (first | apply lh | apply lt)))); (focus (repeat (with_reducible (first | apply lh | apply lt)))); (focus (decide)); (focus (show (i + 1 + 1) * 24 ≤ 1099511627776; omega)); (focus (show i + 1 + 1 ≤ 1099511627776; omega)); (focus (exact feeds_len _ _)); (iterate 3 apply Eq.refl)) | ((with_reducible apply isF (f := 34)); (refine q_call0 rfl (world_Number _ _ (by decide)) ?_)) | ((with_reducible apply e_store layOk); (iterate 3 apply Eq.refl); (focus (repeat (with_reducible (first | apply lh | apply lt)))); (iterate 5 apply Eq.refl)))))
      | (((with_reducible refine gR ?_); (first | refine RK.peelN rfl ?_ | refine RK.donef rfl ⟨_, rfl, ?_⟩ | refine RK.donet rfl (by kernel_rfl) ⟨_, rfl, ?_⟩)))
      | (((with_reducible refine gW ?_); (first | with_reducible refine WP.seq ?_ | refine WP.reg mixed (fun ks => _) (fun ks => rfl) (fun ks => ?_) | ((first | (apply cdD; apply Eq.refl) | (apply WP.condE; apply Eq.refl) | (apply WP.condN; apply Eq.refl) | (apply WP.condA; apply Eq.refl)) <;> (intro hc; first | with_reducible exact ff hc | with_reducible exact ff' hc | skip)) | refine WP.ret ?_ | refine WP.skip ?_ | refine WP.exit ?_ | refine WP.goto ?_ | refine WP.label ?_ | refine WP.block ?_)))
      | (with_reducible refine thn_n ?_)
      | (with_reducible refine thn_r ?_)
      | (with_reducible refine thn_e ?_)
      | (with_reducible refine thn_g ?_)
      | (with_reducible refine blk_n ?_)
      | (with_reducible refine blk_r ?_)
      | (with_reducible refine blk_e ?_)
      | (with_reducible refine blk_g ?_)
      | (((with_reducible refine blk_o ?_ ?_); first | exact rfl | skip))
      | (refine Endz.mk' (by first | exact Or.inl rfl | exact Or.inr rfl) (by repeat (first | exact RVs.nil | apply RVs.cons | exact RV1.tmp rfl | exact RV1.row rfl rfl rfl (by repeat (first | exact look_here | apply look_there)) (by exact rfl) | exact RV1.cell rfl rfl rfl (by repeat (first | exact look_here | apply look_there)) (by exact rfl))) (by rfl) (by repeat (first | exact List.nil_sublist _ | exact List.Sublist.refl _ | apply List.Sublist.cons_cons | apply List.Sublist.cons))))
    · have hlt : ((i + 1 : Nat) : Int) < cnt m := hc
      refine ⟨some (i + 1, _), by show ((i + 1 + 1 : Nat) : Int) ≤ cnt m; omega, by show 7 - (i + 1) < 7 - i; omega, Wk.of ⟨rfl, rfl, rfl, rfl, ?_, trivial⟩ (by repeat (first | exact List.nil_sublist _ | exact List.Sublist.refl _ | apply List.Sublist.cons_cons | apply List.Sublist.cons))⟩
      exact congrArg (fun x => some (I64 x)) ((wrap_in (by omega) (by omega)).trans (by omega))
    · have hge : ¬ ((i + 1 : Nat) : Int) < cnt m := hc
      have e : (cnt m).toNat = i + 1 := by omega
      rw [e]
      have hend : ∀ {x : Value} {s : As} {h' : H} (hx : RVs lay 85 s h' [.cell 6 51] [x]) (hr : RN kf k2 x (.agg ⟨(cfgOf n m k (some ⟨k1, 0, none⟩) (some ⟨k2, 0, none⟩) (i + 1) grown).cells⟩)) (hs : List.Sublist ([(k1, AObj.cells ocv 27)] ++ [(k2, .gone), (kf, .row (feeds k (i + 1)) 97 3)]) h'),
          (Exit.ret = Exit.normal ∨ Exit.ret = Exit.ret) ∧ ∃ s1 vs p, mkT 85 s = mkT 85 s1 ∧ RVs lay 85 s1 h' [.cell 6 51] vs ∧ RN p k2 (tup vs) (.agg ⟨(cfgOf n m k (some ⟨k1, 0, none⟩) (some ⟨k2, 0, none⟩) (i + 1) grown).cells⟩) ∧ (AObj.row (feeds k (i + 1)) 97 3).wr = true ∧ List.Sublist ([(k1, AObj.cells ocv 27)] ++ [(k2, .gone), (p, .row (feeds k (i + 1)) 97 3)]) h' :=
        fun hx hr hs => ⟨Or.inr rfl, _, _, kf, rfl, hx, hr, rfl, hs⟩
      refine hend (by repeat (first | exact RVs.nil | apply RVs.cons | exact RV1.tmp rfl | exact RV1.row rfl rfl rfl (by repeat (first | exact look_here | apply look_there)) (by exact rfl) | exact RV1.cell rfl rfl rfl (by repeat (first | exact look_here | apply look_there)) (by exact rfl))) ?_ (by repeat (first | exact List.nil_sublist _ | exact List.Sublist.refl _ | apply List.Sublist.cons_cons | apply List.Sublist.cons))
      exact RN.agg (by repeat (first | exact RNL.nil | refine RNL.cons (RN.refl _) ?_ | refine RNL.cons (RN.slice _ _ _) ?_))

/-- What the feeders' slice stands on. -/
theorem make_Config (n m k : Int) : ∃ (fa : Nat → Option Addr) (fl fc : Nat) (ob : AObj), ∀ k1 k2 : Nat, Ctr Tryd.prog G 41 [I64 n, I64 m, I64 k] [(k1, .gone), (k2, .gone)] (.agg ⟨(cfgOf n m k (some ⟨k1, 0, none⟩) (fa k2) fl fc).cells⟩) [.cells ocv 27, ob] := by
  by_cases h : (0 : Int) < cnt m
  · exact ⟨fun k2 => some ⟨k2, 0, none⟩, (cnt m).toNat, grown, .row (feeds k (cnt m).toNat) 97 3, fun k1 k2 => make_Config1 n m k k1 k2 h⟩
  · exact ⟨fun _ => none, 0, 0, .gone, fun k1 k2 => (make_Config0 n m k k1 h).more (k2, .gone)⟩
end Go.Proofs.YtlhhcongoplfpaaDoor
namespace Go.Proofs.YtlhhcongoplfpaaDoor
open Go Go.Proofs.YtlhhcongoplfpaaDoorAB
set_option linter.unusedSimpArgs false
set_option linter.unusedVariables false
theorem km1 {x : Nat} (h : 0 < x) (h2 : x ≤ 64) : IntKind.i64.wrap ((x : Int) - 1) = ((x - 1 : Nat) : Int) := by
  rw [wrap_in (by omega) (by omega)]; omega
theorem kp1 {x : Nat} (h2 : x ≤ 64) : IntKind.i64.wrap ((x : Int) + 1) = ((x + 1 : Nat) : Int) := by
  rw [wrap_in (by omega) (by omega)]; omega
end Go.Proofs.YtlhhcongoplfpaaDoor
