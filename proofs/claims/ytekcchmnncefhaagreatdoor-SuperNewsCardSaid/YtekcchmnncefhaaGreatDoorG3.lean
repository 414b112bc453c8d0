/- What functions of this program do, each as a contract that its callers use, and what follows of it in plain numbers.
   By an AI agent. -/
import Derived.Test.YtekcchmnncefhaaGreatDoorG1
import Derived.Test.YtekcchmnncefhaaGreatDoorProg
import Derived.Test.YtekcchmnncefhaaGreatDoorAB
import Derived.Test.YtekcchmnncefhaaGreatDoorG2
import Derived.WalkKit
import Derived.LaidEql
import Derived.Stop.Asserts
import Derived.RowKitTokens
namespace Go.Proofs.YtekcchmnncefhaaGreatDoor
open Go Go.Proofs.YtekcchmnncefhaaGreatDoorAB
/-- The types' layout. -/
def lay : Lay := [
  (1, { agg := false, size := 1, zero := [.nilFunc] }),
  (2, { agg := false, size := 1, zero := [.int .i64 0] }),
  (3, { agg := false, size := 1, zero := [.int .i64 0] }),
  (4, { agg := false, size := 1, zero := [.bool false], bytes := 1 }),
  (5, { agg := false, size := 1, zero := [.int .u8 0], bytes := 1 }),
  (6, { agg := false, size := 1, zero := [.int .u8 0], bytes := 1 }),
  (7, { agg := true, size := 4, zero := [.int .i64 0, .int .i64 0, .bool false, .int .u8 0], bytes := 24, fs := [(0, 1), (1, 1), (2, 1), (3, 1)] }),
  (8, { agg := true, size := 4, zero := [.int .i64 0, .int .i64 0, .bool false, .int .u8 0], bytes := 24, fs := [(0, 1), (1, 1), (2, 1), (3, 1)] }),
  (9, { agg := false, size := 1, zero := [.string ByteArray.empty], bytes := 16 }),
  (10, { agg := false, size := 1, zero := [.string ByteArray.empty], bytes := 16 }),
  (11, { agg := false, size := 1, zero := [.string ByteArray.empty], bytes := 16 }),
  (12, { agg := false, size := 1, zero := [.int .u64 0] }),
  (13, { agg := true, size := 2, zero := [.string ByteArray.empty, .int .u64 0], bytes := 24, fs := [(0, 1), (1, 1)] }),
  (14, { agg := true, size := 2, zero := [.string ByteArray.empty, .int .u64 0], bytes := 24, fs := [(0, 1), (1, 1)] }),
  (15, { agg := false, size := 1, zero := [.pointer none] }),
  (16, { agg := false, size := 1, zero := [.pointer none] }),
  (17, { agg := false, size := 1, zero := [.pointer none] }),
  (18, { agg := true, size := 1, zero := [.pointer none], fs := [(0, 1)] }),
  (19, { agg := true, size := 1, zero := [.pointer none], fs := [(0, 1)] }),
  (20, { agg := false, size := 1, zero := [.nilIface], bytes := 16 }),
  (21, { agg := false, size := 1, zero := [.int .i32 0], bytes := 4 }),
  (22, { agg := false, size := 1, zero := [.slice none 0 0], bytes := 24, sl := some (55, 2) }),
  (23, { agg := false, size := 1, zero := [.slice none 0 0], bytes := 24, sl := some (57, 3) }),
  (24, { agg := true, size := 27, zero := [.int .i64 0, .int .i64 0, .int .i64 0, .int .i64 0, .int .i64 0, .int .i64 0, .int .i64 0, .int .i64 0, .int .i64 0, .int .i64 0, .int .i64 0, .int .i64 0, .int .i64 0, .int .i64 0, .int .i64 0, .int .i64 0, .int .i64 0, .int .i64 0, .int .i64 0, .int .i64 0, .slice none 0 0, .int .i64 0, .int .i64 0, .int .i64 0, .int .i64 0, .int .i64 0, .slice none 0 0], bytes := 248, fs := [(0, 1), (1, 1), (2, 1), (3, 1), (4, 1), (5, 1), (6, 1), (7, 1), (8, 1), (9, 1), (10, 1), (11, 1), (12, 1), (13, 1), (14, 1), (15, 1), (16, 1), (17, 1), (18, 1), (19, 1), (20, 1), (21, 1), (22, 1), (23, 1), (24, 1), (25, 1), (26, 1)] }),
  (25, { agg := true, size := 27, zero := [.int .i64 0, .int .i64 0, .int .i64 0, .int .i64 0, .int .i64 0, .int .i64 0, .int .i64 0, .int .i64 0, .int .i64 0, .int .i64 0, .int .i64 0, .int .i64 0, .int .i64 0, .int .i64 0, .int .i64 0, .int .i64 0, .int .i64 0, .int .i64 0, .int .i64 0, .int .i64 0, .slice none 0 0, .int .i64 0, .int .i64 0, .int .i64 0, .int .i64 0, .int .i64 0, .slice none 0 0], bytes := 248, fs := [(0, 1), (1, 1), (2, 1), (3, 1), (4, 1), (5, 1), (6, 1), (7, 1), (8, 1), (9, 1), (10, 1), (11, 1), (12, 1), (13, 1), (14, 1), (15, 1), (16, 1), (17, 1), (18, 1), (19, 1), (20, 1), (21, 1), (22, 1), (23, 1), (24, 1), (25, 1), (26, 1)] }),
  (26, { agg := false, size := 1, zero := [.slice none 0 0], bytes := 24, sl := some (5, 1) }),
  (27, { agg := false, size := 1, zero := [.int .u32 0], bytes := 4 }),
  (28, { agg := true, size := 2, zero := [.int .i64 0, .int .i64 0], bytes := 16, fs := [(0, 1), (1, 1)] }),
  (29, { agg := true, size := 2, zero := [.int .i64 0, .int .i64 0], bytes := 16, fs := [(0, 1), (1, 1)] }),
  (30, { agg := true, size := 7, zero := [.int .u32 0, .int .i64 0, .int .u32 0, .int .i64 0, .int .i64 0, .int .i64 0, .int .i64 0], bytes := 56, fs := [(0, 1), (1, 1), (2, 1), (3, 2), (5, 2)] }),
  (31, { agg := true, size := 7, zero := [.int .u32 0, .int .i64 0, .int .u32 0, .int .i64 0, .int .i64 0, .int .i64 0, .int .i64 0], bytes := 56, fs := [(0, 1), (1, 1), (2, 1), (3, 2), (5, 2)] }),
  (32, { agg := false, size := 1, zero := [.nilFunc] }),
  (33, { agg := false, size := 1, zero := [.nilFunc] }),
  (34, { agg := false, size := 1, zero := [.pointer none] }),
  (35, { agg := false, size := 1, zero := [.nilIface], bytes := 16 }),
  (36, { agg := false, size := 1, zero := [.nilIface], bytes := 16 }),
  (38, { agg := false, size := 1, zero := [.nilFunc] }),
  (39, { agg := false, size := 1, zero := [.pointer none] }),
  (40, { agg := true, size := 3, zero := [.int .i64 0, .bool false, .int .i64 0], bytes := 24, fs := [(0, 1), (1, 1), (2, 1)] }),
  (41, { agg := true, size := 3, zero := [.int .i64 0, .bool false, .int .i64 0], bytes := 24, fs := [(0, 1), (1, 1), (2, 1)] }),
  (43, { agg := false, size := 1, zero := [.nilFunc] }),
  (44, { agg := false, size := 1, zero := [.nilFunc] }),
  (45, { agg := false, size := 1, zero := [.nilFunc] }),
  (46, { agg := false, size := 1, zero := [.slice none 0 0], bytes := 24, sl := some (137, 2) }),
  (48, { agg := false, size := 1, zero := [.nilFunc] }),
  (49, { agg := false, size := 1, zero := [.nilFunc] }),
  (50, { agg := false, size := 1, zero := [.nilFunc] }),
  (51, { agg := false, size := 1, zero := [.nilFunc] }),
  (52, { agg := false, size := 1, zero := [.nilFunc] }),
  (53, { agg := false, size := 1, zero := [.nilFunc] }),
  (54, { agg := true, size := 2, zero := [.int .i64 0, .int .i64 0], bytes := 16, fs := [(0, 1), (1, 1)] }),
  (55, { agg := true, size := 2, zero := [.int .i64 0, .int .i64 0], bytes := 16, fs := [(0, 1), (1, 1)] }),
  (56, { agg := true, size := 3, zero := [.int .i64 0, .int .i64 0, .int .i64 0], bytes := 24, fs := [(0, 1), (1, 1), (2, 1)] }),
  (57, { agg := true, size := 3, zero := [.int .i64 0, .int .i64 0, .int .i64 0], bytes := 24, fs := [(0, 1), (1, 1), (2, 1)] }),
  (58, { agg := false, size := 1, zero := [.nilFunc] }),
  (60, { agg := false, size := 1, zero := [.nilFunc] }),
  (61, { agg := false, size := 1, zero := [.nilFunc] }),
  (62, { agg := false, size := 1, zero := [.nilFunc] }),
  (63, { agg := false, size := 1, zero := [.nilFunc] }),
  (64, { agg := false, size := 1, zero := [.nilFunc] }),
  (65, { agg := false, size := 1, zero := [.pointer none] }),
  (66, { agg := false, size := 1, zero := [.nilFunc] }),
  (67, { agg := false, size := 1, zero := [.pointer none] }),
  (68, { agg := false, size := 1, zero := [.nilFunc] }),
  (69, { agg := false, size := 1, zero := [.pointer none] }),
  (70, { agg := false, size := 1, zero := [.nilFunc] }),
  (71, { agg := true, size := 5, zero := [.bool false, .bool false, .bool false, .bool false, .int .i64 0], bytes := 16, fs := [(0, 1), (1, 1), (2, 1), (3, 1), (4, 1)] }),
  (72, { agg := true, size := 5, zero := [.bool false, .bool false, .bool false, .bool false, .int .i64 0], bytes := 16, fs := [(0, 1), (1, 1), (2, 1), (3, 1), (4, 1)] }),
  (73, { agg := false, size := 1, zero := [.pointer none] }),
  (74, { agg := true, size := 7, zero := [.pointer none, .pointer none, .pointer none, .pointer none, .pointer none, .pointer none, .pointer none], bytes := 56, arr := some (7, 73, 1) }),
  (75, { agg := false, size := 1, zero := [.pointer none] }),
  (76, { agg := true, size := 4, zero := [.pointer none, .pointer none, .pointer none, .pointer none], bytes := 32, arr := some (4, 75, 1) }),
  (77, { agg := false, size := 1, zero := [.pointer none] }),
  (78, { agg := true, size := 2, zero := [.pointer none, .pointer none], bytes := 16, arr := some (2, 77, 1) }),
  (79, { agg := true, size := 5, zero := [.int .i64 0, .int .i64 0, .int .i64 0, .int .i64 0, .int .i64 0], bytes := 40, fs := [(0, 1), (1, 1), (2, 1), (3, 1), (4, 1)] }),
  (80, { agg := true, size := 5, zero := [.int .i64 0, .int .i64 0, .int .i64 0, .int .i64 0, .int .i64 0], bytes := 40, fs := [(0, 1), (1, 1), (2, 1), (3, 1), (4, 1)] }),
  (81, { agg := true, size := 62, zero := [.int .i64 0, .int .i64 0, .int .i64 0, .int .i64 0, .int .i64 0, .int .i64 0, .int .i64 0, .int .i64 0, .int .i64 0, .int .i64 0, .int .i64 0, .int .i64 0, .int .i64 0, .int .i64 0, .int .i64 0, .int .i64 0, .int .i64 0, .int .i64 0, .int .i64 0, .int .i64 0, .slice none 0 0, .int .i64 0, .int .i64 0, .int .i64 0, .int .i64 0, .int .i64 0, .slice none 0 0, .slice none 0 0, .pointer none, .bool false, .bool false, .bool false, .bool false, .int .i64 0, .bool false, .int .u8 0, .pointer none, .pointer none, .pointer none, .pointer none, .pointer none, .pointer none, .pointer none, .pointer none, .pointer none, .pointer none, .pointer none, .pointer none, .pointer none, .pointer none, .pointer none, .int .i64 0, .int .i64 0, .int .i64 0, .int .u32 0, .bool false, .int .i64 0, .int .i64 0, .int .i64 0, .int .i64 0, .int .i64 0, .int .i64 0], bytes := 504, fs := [(0, 27), (27, 1), (28, 1), (29, 5), (34, 1), (35, 1), (36, 7), (43, 1), (44, 4), (48, 2), (50, 1), (51, 1), (52, 1), (53, 1), (54, 1), (55, 1), (56, 1), (57, 5)] }),
  (82, { agg := true, size := 62, zero := [.int .i64 0, .int .i64 0, .int .i64 0, .int .i64 0, .int .i64 0, .int .i64 0, .int .i64 0, .int .i64 0, .int .i64 0, .int .i64 0, .int .i64 0, .int .i64 0, .int .i64 0, .int .i64 0, .int .i64 0, .int .i64 0, .int .i64 0, .int .i64 0, .int .i64 0, .int .i64 0, .slice none 0 0, .int .i64 0, .int .i64 0, .int .i64 0, .int .i64 0, .int .i64 0, .slice none 0 0, .slice none 0 0, .pointer none, .bool false, .bool false, .bool false, .bool false, .int .i64 0, .bool false, .int .u8 0, .pointer none, .pointer none, .pointer none, .pointer none, .pointer none, .pointer none, .pointer none, .pointer none, .pointer none, .pointer none, .pointer none, .pointer none, .pointer none, .pointer none, .pointer none, .int .i64 0, .int .i64 0, .int .i64 0, .int .u32 0, .bool false, .int .i64 0, .int .i64 0, .int .i64 0, .int .i64 0, .int .i64 0, .int .i64 0], bytes := 504, fs := [(0, 27), (27, 1), (28, 1), (29, 5), (34, 1), (35, 1), (36, 7), (43, 1), (44, 4), (48, 2), (50, 1), (51, 1), (52, 1), (53, 1), (54, 1), (55, 1), (56, 1), (57, 5)] }),
  (83, { agg := false, size := 1, zero := [.nilFunc] }),
  (84, { agg := false, size := 1, zero := [.nilFunc] }),
  (85, { agg := false, size := 1, zero := [.nilFunc] }),
  (86, { agg := false, size := 1, zero := [.nilFunc] }),
  (87, { agg := true, size := 4, zero := [.int .i64 0, .int .i64 0, .int .i64 0, .int .i64 0], bytes := 32, arr := some (2, 29, 2) }),
  (88, { agg := false, size := 1, zero := [.nilFunc] }),
  (89, { agg := false, size := 1, zero := [.nilFunc] }),
  (90, { agg := false, size := 1, zero := [.nilFunc] }),
  (92, { agg := false, size := 1, zero := [.nilFunc] }),
  (93, { agg := false, size := 1, zero := [.nilFunc] }),
  (94, { agg := false, size := 1, zero := [.pointer none] }),
  (95, { agg := false, size := 1, zero := [.nilFunc] }),
  (96, { agg := false, size := 1, zero := [.pointer none] }),
  (97, { agg := true, size := 3, zero := [.int .i64 0, .int .i64 0, .int .i64 0], bytes := 24, arr := some (3, 3, 1) }),
  (98, { agg := true, size := 3, zero := [.bool false, .bool false, .bool false], bytes := 3, arr := some (3, 4, 1) }),
  (99, { agg := true, size := 33, zero := [.int .i64 0, .int .i64 0, .int .i64 0, .int .i64 0, .int .i64 0, .int .i64 0, .int .i64 0, .int .i64 0, .int .i64 0, .int .i64 0, .int .i64 0, .int .i64 0, .int .i64 0, .int .i64 0, .int .i64 0, .int .i64 0, .int .i64 0, .int .i64 0, .int .i64 0, .int .i64 0, .slice none 0 0, .int .i64 0, .int .i64 0, .int .i64 0, .int .i64 0, .int .i64 0, .slice none 0 0, .int .i64 0, .int .i64 0, .int .i64 0, .bool false, .bool false, .bool false], bytes := 280, fs := [(0, 27), (27, 3), (30, 3)] }),
  (100, { agg := true, size := 33, zero := [.int .i64 0, .int .i64 0, .int .i64 0, .int .i64 0, .int .i64 0, .int .i64 0, .int .i64 0, .int .i64 0, .int .i64 0, .int .i64 0, .int .i64 0, .int .i64 0, .int .i64 0, .int .i64 0, .int .i64 0, .int .i64 0, .int .i64 0, .int .i64 0, .int .i64 0, .int .i64 0, .slice none 0 0, .int .i64 0, .int .i64 0, .int .i64 0, .int .i64 0, .int .i64 0, .slice none 0 0, .int .i64 0, .int .i64 0, .int .i64 0, .bool false, .bool false, .bool false], bytes := 280, fs := [(0, 27), (27, 3), (30, 3)] }),
  (101, { agg := false, size := 1, zero := [.pointer none] }),
  (102, { agg := true, size := 16, zero := [.int .i64 0, .int .i64 0, .int .i64 0, .int .i64 0, .int .i64 0, .int .i64 0, .int .i64 0, .int .i64 0, .int .i64 0, .int .i64 0, .int .i64 0, .int .i64 0, .int .i64 0, .int .i64 0, .int .i64 0, .int .i64 0], bytes := 128, arr := some (16, 3, 1) }),
  (103, { agg := true, size := 44, zero := [.int .i64 0, .int .i64 0, .int .i64 0, .int .i64 0, .int .i64 0, .int .i64 0, .int .i64 0, .int .i64 0, .int .i64 0, .int .i64 0, .int .i64 0, .int .i64 0, .int .i64 0, .int .i64 0, .int .i64 0, .int .i64 0, .int .i64 0, .int .i64 0, .int .i64 0, .int .i64 0, .slice none 0 0, .int .i64 0, .int .i64 0, .int .i64 0, .int .i64 0, .int .i64 0, .slice none 0 0, .int .i64 0, .int .i64 0, .int .i64 0, .int .i64 0, .int .i64 0, .int .i64 0, .int .i64 0, .int .i64 0, .int .i64 0, .int .i64 0, .int .i64 0, .int .i64 0, .int .i64 0, .int .i64 0, .int .i64 0, .int .i64 0, .int .i64 0], bytes := 384, fs := [(0, 27), (27, 16), (43, 1)] }),
  (104, { agg := true, size := 44, zero := [.int .i64 0, .int .i64 0, .int .i64 0, .int .i64 0, .int .i64 0, .int .i64 0, .int .i64 0, .int .i64 0, .int .i64 0, .int .i64 0, .int .i64 0, .int .i64 0, .int .i64 0, .int .i64 0, .int .i64 0, .int .i64 0, .int .i64 0, .int .i64 0, .int .i64 0, .int .i64 0, .slice none 0 0, .int .i64 0, .int .i64 0, .int .i64 0, .int .i64 0, .int .i64 0, .slice none 0 0, .int .i64 0, .int .i64 0, .int .i64 0, .int .i64 0, .int .i64 0, .int .i64 0, .int .i64 0, .int .i64 0, .int .i64 0, .int .i64 0, .int .i64 0, .int .i64 0, .int .i64 0, .int .i64 0, .int .i64 0, .int .i64 0, .int .i64 0], bytes := 384, fs := [(0, 27), (27, 16), (43, 1)] }),
  (105, { agg := true, size := 5, zero := [.bool false, .bool false, .bool false, .bool false, .int .i64 0], bytes := 16, fs := [(0, 1), (1, 1), (2, 1), (3, 1), (4, 1)] }),
  (106, { agg := false, size := 1, zero := [.pointer none] }),
  (107, { agg := true, size := 7, zero := [.pointer none, .pointer none, .pointer none, .pointer none, .pointer none, .pointer none, .pointer none], bytes := 56, arr := some (7, 106, 1) }),
  (108, { agg := false, size := 1, zero := [.pointer none] }),
  (109, { agg := true, size := 4, zero := [.pointer none, .pointer none, .pointer none, .pointer none], bytes := 32, arr := some (4, 108, 1) }),
  (110, { agg := false, size := 1, zero := [.pointer none] }),
  (111, { agg := true, size := 2, zero := [.pointer none, .pointer none], bytes := 16, arr := some (2, 110, 1) }),
  (112, { agg := true, size := 62, zero := [.int .i64 0, .int .i64 0, .int .i64 0, .int .i64 0, .int .i64 0, .int .i64 0, .int .i64 0, .int .i64 0, .int .i64 0, .int .i64 0, .int .i64 0, .int .i64 0, .int .i64 0, .int .i64 0, .int .i64 0, .int .i64 0, .int .i64 0, .int .i64 0, .int .i64 0, .int .i64 0, .slice none 0 0, .int .i64 0, .int .i64 0, .int .i64 0, .int .i64 0, .int .i64 0, .slice none 0 0, .slice none 0 0, .pointer none, .bool false, .bool false, .bool false, .bool false, .int .i64 0, .bool false, .int .u8 0, .pointer none, .pointer none, .pointer none, .pointer none, .pointer none, .pointer none, .pointer none, .pointer none, .pointer none, .pointer none, .pointer none, .pointer none, .pointer none, .pointer none, .pointer none, .int .i64 0, .int .i64 0, .int .i64 0, .bool false, .int .u32 0, .int .i64 0, .int .i64 0, .int .i64 0, .int .i64 0, .int .i64 0, .int .i64 0], bytes := 504, fs := [(0, 27), (27, 1), (28, 1), (29, 5), (34, 1), (35, 1), (36, 7), (43, 1), (44, 4), (48, 2), (50, 1), (51, 1), (52, 1), (53, 1), (54, 1), (55, 1), (56, 1), (57, 5)] }),
  (113, { agg := true, size := 62, zero := [.int .i64 0, .int .i64 0, .int .i64 0, .int .i64 0, .int .i64 0, .int .i64 0, .int .i64 0, .int .i64 0, .int .i64 0, .int .i64 0, .int .i64 0, .int .i64 0, .int .i64 0, .int .i64 0, .int .i64 0, .int .i64 0, .int .i64 0, .int .i64 0, .int .i64 0, .int .i64 0, .slice none 0 0, .int .i64 0, .int .i64 0, .int .i64 0, .int .i64 0, .int .i64 0, .slice none 0 0, .slice none 0 0, .pointer none, .bool false, .bool false, .bool false, .bool false, .int .i64 0, .bool false, .int .u8 0, .pointer none, .pointer none, .pointer none, .pointer none, .pointer none, .pointer none, .pointer none, .pointer none, .pointer none, .pointer none, .pointer none, .pointer none, .pointer none, .pointer none, .pointer none, .int .i64 0, .int .i64 0, .int .i64 0, .bool false, .int .u32 0, .int .i64 0, .int .i64 0, .int .i64 0, .int .i64 0, .int .i64 0, .int .i64 0], bytes := 504, fs := [(0, 27), (27, 1), (28, 1), (29, 5), (34, 1), (35, 1), (36, 7), (43, 1), (44, 4), (48, 2), (50, 1), (51, 1), (52, 1), (53, 1), (54, 1), (55, 1), (56, 1), (57, 5)] }),
  (114, { agg := false, size := 1, zero := [.nilFunc] }),
  (115, { agg := false, size := 1, zero := [.nilFunc] }),
  (116, { agg := false, size := 1, zero := [.nilFunc] }),
  (117, { agg := false, size := 1, zero := [.nilFunc] }),
  (118, { agg := false, size := 1, zero := [.int .u64 0] }),
  (119, { agg := true, size := 10, zero := [.int .i64 0, .int .i64 0, .bool false, .int .i64 0, .int .i64 0, .bool false, .bool false, .bool false, .bool false, .bool false], bytes := 48, fs := [(0, 1), (1, 1), (2, 1), (3, 1), (4, 1), (5, 1), (6, 1), (7, 1), (8, 1), (9, 1)] }),
  (120, { agg := true, size := 10, zero := [.int .i64 0, .int .i64 0, .bool false, .int .i64 0, .int .i64 0, .bool false, .bool false, .bool false, .bool false, .bool false], bytes := 48, fs := [(0, 1), (1, 1), (2, 1), (3, 1), (4, 1), (5, 1), (6, 1), (7, 1), (8, 1), (9, 1)] }),
  (121, { agg := false, size := 1, zero := [.pointer none] }),
  (122, { agg := true, size := 32, zero := [.int .i64 0, .int .i64 0, .int .i64 0, .int .i64 0, .int .i64 0, .int .i64 0, .int .i64 0, .int .i64 0, .int .i64 0, .int .i64 0, .int .i64 0, .int .i64 0, .int .i64 0, .int .i64 0, .int .i64 0, .int .i64 0, .int .i64 0, .int .i64 0, .int .i64 0, .int .i64 0, .slice none 0 0, .int .i64 0, .int .i64 0, .int .i64 0, .int .i64 0, .int .i64 0, .slice none 0 0, .pointer none, .pointer none, .pointer none, .bool false, .bool false], bytes := 280, fs := [(0, 27), (27, 1), (28, 1), (29, 1), (30, 1), (31, 1)] }),
  (123, { agg := true, size := 32, zero := [.int .i64 0, .int .i64 0, .int .i64 0, .int .i64 0, .int .i64 0, .int .i64 0, .int .i64 0, .int .i64 0, .int .i64 0, .int .i64 0, .int .i64 0, .int .i64 0, .int .i64 0, .int .i64 0, .int .i64 0, .int .i64 0, .int .i64 0, .int .i64 0, .int .i64 0, .int .i64 0, .slice none 0 0, .int .i64 0, .int .i64 0, .int .i64 0, .int .i64 0, .int .i64 0, .slice none 0 0, .pointer none, .pointer none, .pointer none, .bool false, .bool false], bytes := 280, fs := [(0, 27), (27, 1), (28, 1), (29, 1), (30, 1), (31, 1)] }),
  (124, { agg := false, size := 1, zero := [.nilFunc] }),
  (125, { agg := false, size := 1, zero := [.nilFunc] }),
  (126, { agg := false, size := 1, zero := [.nilFunc] }),
  (127, { agg := false, size := 1, zero := [.nilFunc] }),
  (128, { agg := true, size := 34, zero := [.int .i64 0, .int .i64 0, .int .i64 0, .int .i64 0, .int .i64 0, .int .i64 0, .int .i64 0, .int .i64 0, .int .i64 0, .int .i64 0, .int .i64 0, .int .i64 0, .int .i64 0, .int .i64 0, .int .i64 0, .int .i64 0, .int .i64 0, .int .i64 0, .int .i64 0, .int .i64 0, .slice none 0 0, .int .i64 0, .int .i64 0, .int .i64 0, .int .i64 0, .int .i64 0, .slice none 0 0, .int .i64 0, .int .i64 0, .int .i64 0, .int .i64 0, .int .i64 0, .int .i64 0, .bool false], bytes := 304, fs := [(0, 27), (27, 2), (29, 2), (31, 2), (33, 1)] }),
  (129, { agg := true, size := 34, zero := [.int .i64 0, .int .i64 0, .int .i64 0, .int .i64 0, .int .i64 0, .int .i64 0, .int .i64 0, .int .i64 0, .int .i64 0, .int .i64 0, .int .i64 0, .int .i64 0, .int .i64 0, .int .i64 0, .int .i64 0, .int .i64 0, .int .i64 0, .int .i64 0, .int .i64 0, .int .i64 0, .slice none 0 0, .int .i64 0, .int .i64 0, .int .i64 0, .int .i64 0, .int .i64 0, .slice none 0 0, .int .i64 0, .int .i64 0, .int .i64 0, .int .i64 0, .int .i64 0, .int .i64 0, .bool false], bytes := 304, fs := [(0, 27), (27, 2), (29, 2), (31, 2), (33, 1)] }),
  (130, { agg := false, size := 1, zero := [.nilFunc] }),
  (131, { agg := false, size := 1, zero := [.nilFunc] }),
  (132, { agg := false, size := 1, zero := [.nilFunc] }),
  (133, { agg := false, size := 1, zero := [.nilFunc] }),
  (134, { agg := false, size := 1, zero := [.nilFunc] }),
  (135, { agg := false, size := 1, zero := [.nilFunc] }),
  (136, { agg := true, size := 2, zero := [.int .i64 0, .int .u8 0], bytes := 16, fs := [(0, 1), (1, 1)] }),
  (137, { agg := true, size := 2, zero := [.int .i64 0, .int .u8 0], bytes := 16, fs := [(0, 1), (1, 1)] }),
  (138, { agg := false, size := 1, zero := [.pointer none] }),
  (139, { agg := true, size := 2, zero := [.int .i64 0, .nilIface], bytes := 24, fs := [(0, 1), (1, 1)] }),
  (140, { agg := true, size := 2, zero := [.int .i64 0, .nilIface], bytes := 24, fs := [(0, 1), (1, 1)] }),
  (141, { agg := false, size := 1, zero := [.nilFunc] }),
  (143, { agg := false, size := 1, zero := [.nilFunc] }),
  (144, { agg := false, size := 1, zero := [.nilIface], bytes := 16 }),
  (145, { agg := false, size := 1, zero := [.nilIface], bytes := 16 }),
  (146, { agg := false, size := 1, zero := [.nilFunc] }),
  (147, { agg := false, size := 1, zero := [.nilFunc] }),
  (148, { agg := false, size := 1, zero := [.nilFunc] }),
  (149, { agg := false, size := 1, zero := [.map none] }),
  (150, { agg := true, size := 2, zero := [.int .i64 0, .map none], bytes := 16, fs := [(0, 1), (1, 1)] }),
  (151, { agg := true, size := 2, zero := [.int .i64 0, .map none], bytes := 16, fs := [(0, 1), (1, 1)] }),
  (152, { agg := false, size := 1, zero := [.pointer none] }),
  (153, { agg := true, size := 3, zero := [.pointer none, .pointer none, .pointer none], bytes := 24, arr := some (3, 152, 1) }),
  (154, { agg := true, size := 4, zero := [.int .i64 0, .pointer none, .pointer none, .pointer none], bytes := 32, fs := [(0, 1), (1, 3)] }),
  (155, { agg := true, size := 4, zero := [.int .i64 0, .pointer none, .pointer none, .pointer none], bytes := 32, fs := [(0, 1), (1, 3)] }),
  (156, { agg := false, size := 1, zero := [.nilFunc] }),
  (157, { agg := false, size := 1, zero := [.slice none 0 0], bytes := 24, sl := some (3, 1) }),
  (158, { agg := true, size := 3, zero := [.int .i64 0, .slice none 0 0, .int .i64 0], bytes := 40, fs := [(0, 1), (1, 1), (2, 1)] }),
  (159, { agg := true, size := 3, zero := [.int .i64 0, .slice none 0 0, .int .i64 0], bytes := 40, fs := [(0, 1), (1, 1), (2, 1)] }),
  (160, { agg := false, size := 1, zero := [.nilFunc] }),
  (161, { agg := true, size := 2, zero := [.int .i64 0, .bool false], bytes := 16, fs := [(0, 1), (1, 1)] }),
  (162, { agg := true, size := 2, zero := [.int .i64 0, .bool false], bytes := 16, fs := [(0, 1), (1, 1)] }),
  (163, { agg := true, size := 9, zero := [.int .i64 0, .int .i64 0, .bool false, .int .i64 0, .int .i64 0, .int .i64 0, .bool false, .bool false, .bool false], bytes := 64, fs := [(0, 1), (1, 1), (2, 1), (3, 1), (4, 1), (5, 2), (7, 1), (8, 1)] }),
  (164, { agg := true, size := 9, zero := [.int .i64 0, .int .i64 0, .bool false, .int .i64 0, .int .i64 0, .int .i64 0, .bool false, .bool false, .bool false], bytes := 64, fs := [(0, 1), (1, 1), (2, 1), (3, 1), (4, 1), (5, 2), (7, 1), (8, 1)] }),
  (165, { agg := false, size := 1, zero := [.nilFunc] }),
  (166, { agg := true, size := 32, zero := [.int .i64 0, .int .i64 0, .int .i64 0, .int .i64 0, .int .i64 0, .int .i64 0, .int .i64 0, .int .i64 0, .int .i64 0, .int .i64 0, .int .i64 0, .int .i64 0, .int .i64 0, .int .i64 0, .int .i64 0, .int .i64 0, .int .i64 0, .int .i64 0, .int .i64 0, .int .i64 0, .slice none 0 0, .int .i64 0, .int .i64 0, .int .i64 0, .int .i64 0, .int .i64 0, .slice none 0 0, .pointer none, .pointer none, .pointer none, .bool false, .bool false], bytes := 280, fs := [(0, 27), (27, 1), (28, 1), (29, 1), (30, 1), (31, 1)] }),
  (167, { agg := true, size := 32, zero := [.int .i64 0, .int .i64 0, .int .i64 0, .int .i64 0, .int .i64 0, .int .i64 0, .int .i64 0, .int .i64 0, .int .i64 0, .int .i64 0, .int .i64 0, .int .i64 0, .int .i64 0, .int .i64 0, .int .i64 0, .int .i64 0, .int .i64 0, .int .i64 0, .int .i64 0, .int .i64 0, .slice none 0 0, .int .i64 0, .int .i64 0, .int .i64 0, .int .i64 0, .int .i64 0, .slice none 0 0, .pointer none, .pointer none, .pointer none, .bool false, .bool false], bytes := 280, fs := [(0, 27), (27, 1), (28, 1), (29, 1), (30, 1), (31, 1)] }),
  (168, { agg := false, size := 1, zero := [.nilFunc] }),
  (169, { agg := false, size := 1, zero := [.pointer none] }),
  (170, { agg := false, size := 1, zero := [.nilFunc] }),
  (171, { agg := true, size := 32, zero := [.int .i64 0, .int .i64 0, .int .i64 0, .int .i64 0, .int .i64 0, .int .i64 0, .int .i64 0, .int .i64 0, .int .i64 0, .int .i64 0, .int .i64 0, .int .i64 0, .int .i64 0, .int .i64 0, .int .i64 0, .int .i64 0, .int .i64 0, .int .i64 0, .int .i64 0, .int .i64 0, .slice none 0 0, .int .i64 0, .int .i64 0, .int .i64 0, .int .i64 0, .int .i64 0, .slice none 0 0, .pointer none, .pointer none, .bool false, .int .i64 0, .int .i64 0], bytes := 288, fs := [(0, 27), (27, 1), (28, 1), (29, 1), (30, 2)] }),
  (172, { agg := true, size := 32, zero := [.int .i64 0, .int .i64 0, .int .i64 0, .int .i64 0, .int .i64 0, .int .i64 0, .int .i64 0, .int .i64 0, .int .i64 0, .int .i64 0, .int .i64 0, .int .i64 0, .int .i64 0, .int .i64 0, .int .i64 0, .int .i64 0, .int .i64 0, .int .i64 0, .int .i64 0, .int .i64 0, .slice none 0 0, .int .i64 0, .int .i64 0, .int .i64 0, .int .i64 0, .int .i64 0, .slice none 0 0, .pointer none, .pointer none, .bool false, .int .i64 0, .int .i64 0], bytes := 288, fs := [(0, 27), (27, 1), (28, 1), (29, 1), (30, 2)] }),
  (173, { agg := false, size := 1, zero := [.nilFunc] }),
  (174, { agg := false, size := 1, zero := [.nilFunc] }),
  (175, { agg := false, size := 1, zero := [.slice none 0 0], bytes := 24, sl := some (2, 1) }),
  (176, { agg := false, size := 1, zero := [.nilFunc] }),
  (177, { agg := false, size := 1, zero := [.nilFunc] }),
  (178, { agg := true, size := 48, zero := [.int .i64 0, .int .i64 0, .int .i64 0, .int .i64 0, .int .i64 0, .int .i64 0, .int .i64 0, .int .i64 0, .int .i64 0, .int .i64 0, .int .i64 0, .int .i64 0, .int .i64 0, .int .i64 0, .int .i64 0, .int .i64 0, .int .i64 0, .int .i64 0, .int .i64 0, .int .i64 0, .int .i64 0, .int .i64 0, .int .i64 0, .int .i64 0, .int .i64 0, .int .i64 0, .int .i64 0, .int .i64 0, .int .i64 0, .int .i64 0, .int .i64 0, .int .i64 0, .int .i64 0, .int .i64 0, .int .i64 0, .int .i64 0, .int .i64 0, .int .i64 0, .int .i64 0, .int .i64 0, .int .i64 0, .int .i64 0, .int .i64 0, .int .i64 0, .int .i64 0, .int .i64 0, .int .i64 0, .int .i64 0], bytes := 384, arr := some (48, 2, 1) }),
  (179, { agg := true, size := 48, zero := [.int .u8 0, .int .u8 0, .int .u8 0, .int .u8 0, .int .u8 0, .int .u8 0, .int .u8 0, .int .u8 0, .int .u8 0, .int .u8 0, .int .u8 0, .int .u8 0, .int .u8 0, .int .u8 0, .int .u8 0, .int .u8 0, .int .u8 0, .int .u8 0, .int .u8 0, .int .u8 0, .int .u8 0, .int .u8 0, .int .u8 0, .int .u8 0, .int .u8 0, .int .u8 0, .int .u8 0, .int .u8 0, .int .u8 0, .int .u8 0, .int .u8 0, .int .u8 0, .int .u8 0, .int .u8 0, .int .u8 0, .int .u8 0, .int .u8 0, .int .u8 0, .int .u8 0, .int .u8 0, .int .u8 0, .int .u8 0, .int .u8 0, .int .u8 0, .int .u8 0, .int .u8 0, .int .u8 0, .int .u8 0], bytes := 48, arr := some (48, 5, 1) }),
  (180, { agg := true, size := 48, zero := [.int .i64 0, .int .i64 0, .int .i64 0, .int .i64 0, .int .i64 0, .int .i64 0, .int .i64 0, .int .i64 0, .int .i64 0, .int .i64 0, .int .i64 0, .int .i64 0, .int .i64 0, .int .i64 0, .int .i64 0, .int .i64 0, .int .i64 0, .int .i64 0, .int .i64 0, .int .i64 0, .int .i64 0, .int .i64 0, .int .i64 0, .int .i64 0, .int .i64 0, .int .i64 0, .int .i64 0, .int .i64 0, .int .i64 0, .int .i64 0, .int .i64 0, .int .i64 0, .int .i64 0, .int .i64 0, .int .i64 0, .int .i64 0, .int .i64 0, .int .i64 0, .int .i64 0, .int .i64 0, .int .i64 0, .int .i64 0, .int .i64 0, .int .i64 0, .int .i64 0, .int .i64 0, .int .i64 0, .int .i64 0], bytes := 384, arr := some (48, 3, 1) }),
  (181, { agg := true, size := 48, zero := [.bool false, .bool false, .bool false, .bool false, .bool false, .bool false, .bool false, .bool false, .bool false, .bool false, .bool false, .bool false, .bool false, .bool false, .bool false, .bool false, .bool false, .bool false, .bool false, .bool false, .bool false, .bool false, .bool false, .bool false, .bool false, .bool false, .bool false, .bool false, .bool false, .bool false, .bool false, .bool false, .bool false, .bool false, .bool false, .bool false, .bool false, .bool false, .bool false, .bool false, .bool false, .bool false, .bool false, .bool false, .bool false, .bool false, .bool false, .bool false], bytes := 48, arr := some (48, 4, 1) }),
  (182, { agg := true, size := 193, zero := [.int .i64 0, .int .i64 0, .int .i64 0, .int .i64 0, .int .i64 0, .int .i64 0, .int .i64 0, .int .i64 0, .int .i64 0, .int .i64 0, .int .i64 0, .int .i64 0, .int .i64 0, .int .i64 0, .int .i64 0, .int .i64 0, .int .i64 0, .int .i64 0, .int .i64 0, .int .i64 0, .int .i64 0, .int .i64 0, .int .i64 0, .int .i64 0, .int .i64 0, .int .i64 0, .int .i64 0, .int .i64 0, .int .i64 0, .int .i64 0, .int .i64 0, .int .i64 0, .int .i64 0, .int .i64 0, .int .i64 0, .int .i64 0, .int .i64 0, .int .i64 0, .int .i64 0, .int .i64 0, .int .i64 0, .int .i64 0, .int .i64 0, .int .i64 0, .int .i64 0, .int .i64 0, .int .i64 0, .int .i64 0, .int .i64 0, .int .u8 0, .int .u8 0, .int .u8 0, .int .u8 0, .int .u8 0, .int .u8 0, .int .u8 0, .int .u8 0, .int .u8 0, .int .u8 0, .int .u8 0, .int .u8 0, .int .u8 0, .int .u8 0, .int .u8 0, .int .u8 0, .int .u8 0, .int .u8 0, .int .u8 0, .int .u8 0, .int .u8 0, .int .u8 0, .int .u8 0, .int .u8 0, .int .u8 0, .int .u8 0, .int .u8 0, .int .u8 0, .int .u8 0, .int .u8 0, .int .u8 0, .int .u8 0, .int .u8 0, .int .u8 0, .int .u8 0, .int .u8 0, .int .u8 0, .int .u8 0, .int .u8 0, .int .u8 0, .int .u8 0, .int .u8 0, .int .u8 0, .int .u8 0, .int .u8 0, .int .u8 0, .int .u8 0, .int .u8 0, .int .i64 0, .int .i64 0, .int .i64 0, .int .i64 0, .int .i64 0, .int .i64 0, .int .i64 0, .int .i64 0, .int .i64 0, .int .i64 0, .int .i64 0, .int .i64 0, .int .i64 0, .int .i64 0, .int .i64 0, .int .i64 0, .int .i64 0, .int .i64 0, .int .i64 0, .int .i64 0, .int .i64 0, .int .i64 0, .int .i64 0, .int .i64 0, .int .i64 0, .int .i64 0, .int .i64 0, .int .i64 0, .int .i64 0, .int .i64 0, .int .i64 0, .int .i64 0, .int .i64 0, .int .i64 0, .int .i64 0, .int .i64 0, .int .i64 0, .int .i64 0, .int .i64 0, .int .i64 0, .int .i64 0, .int .i64 0, .int .i64 0, .int .i64 0, .int .i64 0, .int .i64 0, .int .i64 0, .int .i64 0, .bool false, .bool false, .bool false, .bool false, .bool false, .bool false, .bool false, .bool false, .bool false, .bool false, .bool false, .bool false, .bool false, .bool false, .bool false, .bool false, .bool false, .bool false, .bool false, .bool false, .bool false, .bool false, .bool false, .bool false, .bool false, .bool false, .bool false, .bool false, .bool false, .bool false, .bool false, .bool false, .bool false, .bool false, .bool false, .bool false, .bool false, .bool false, .bool false, .bool false, .bool false, .bool false, .bool false, .bool false, .bool false, .bool false, .bool false, .bool false], bytes := 872, fs := [(0, 1), (1, 48), (49, 48), (97, 48), (145, 48)] }),
  (183, { agg := true, size := 193, zero := [.int .i64 0, .int .i64 0, .int .i64 0, .int .i64 0, .int .i64 0, .int .i64 0, .int .i64 0, .int .i64 0, .int .i64 0, .int .i64 0, .int .i64 0, .int .i64 0, .int .i64 0, .int .i64 0, .int .i64 0, .int .i64 0, .int .i64 0, .int .i64 0, .int .i64 0, .int .i64 0, .int .i64 0, .int .i64 0, .int .i64 0, .int .i64 0, .int .i64 0, .int .i64 0, .int .i64 0, .int .i64 0, .int .i64 0, .int .i64 0, .int .i64 0, .int .i64 0, .int .i64 0, .int .i64 0, .int .i64 0, .int .i64 0, .int .i64 0, .int .i64 0, .int .i64 0, .int .i64 0, .int .i64 0, .int .i64 0, .int .i64 0, .int .i64 0, .int .i64 0, .int .i64 0, .int .i64 0, .int .i64 0, .int .i64 0, .int .u8 0, .int .u8 0, .int .u8 0, .int .u8 0, .int .u8 0, .int .u8 0, .int .u8 0, .int .u8 0, .int .u8 0, .int .u8 0, .int .u8 0, .int .u8 0, .int .u8 0, .int .u8 0, .int .u8 0, .int .u8 0, .int .u8 0, .int .u8 0, .int .u8 0, .int .u8 0, .int .u8 0, .int .u8 0, .int .u8 0, .int .u8 0, .int .u8 0, .int .u8 0, .int .u8 0, .int .u8 0, .int .u8 0, .int .u8 0, .int .u8 0, .int .u8 0, .int .u8 0, .int .u8 0, .int .u8 0, .int .u8 0, .int .u8 0, .int .u8 0, .int .u8 0, .int .u8 0, .int .u8 0, .int .u8 0, .int .u8 0, .int .u8 0, .int .u8 0, .int .u8 0, .int .u8 0, .int .u8 0, .int .i64 0, .int .i64 0, .int .i64 0, .int .i64 0, .int .i64 0, .int .i64 0, .int .i64 0, .int .i64 0, .int .i64 0, .int .i64 0, .int .i64 0, .int .i64 0, .int .i64 0, .int .i64 0, .int .i64 0, .int .i64 0, .int .i64 0, .int .i64 0, .int .i64 0, .int .i64 0, .int .i64 0, .int .i64 0, .int .i64 0, .int .i64 0, .int .i64 0, .int .i64 0, .int .i64 0, .int .i64 0, .int .i64 0, .int .i64 0, .int .i64 0, .int .i64 0, .int .i64 0, .int .i64 0, .int .i64 0, .int .i64 0, .int .i64 0, .int .i64 0, .int .i64 0, .int .i64 0, .int .i64 0, .int .i64 0, .int .i64 0, .int .i64 0, .int .i64 0, .int .i64 0, .int .i64 0, .int .i64 0, .bool false, .bool false, .bool false, .bool false, .bool false, .bool false, .bool false, .bool false, .bool false, .bool false, .bool false, .bool false, .bool false, .bool false, .bool false, .bool false, .bool false, .bool false, .bool false, .bool false, .bool false, .bool false, .bool false, .bool false, .bool false, .bool false, .bool false, .bool false, .bool false, .bool false, .bool false, .bool false, .bool false, .bool false, .bool false, .bool false, .bool false, .bool false, .bool false, .bool false, .bool false, .bool false, .bool false, .bool false, .bool false, .bool false, .bool false, .bool false], bytes := 872, fs := [(0, 1), (1, 48), (49, 48), (97, 48), (145, 48)] }),
  (184, { agg := false, size := 1, zero := [.nilFunc] }),
  (185, { agg := false, size := 1, zero := [.nilFunc] }),
  (187, { agg := false, size := 1, zero := [.nilFunc] }),
  (188, { agg := false, size := 1, zero := [.nilFunc] }),
  (190, { agg := false, size := 1, zero := [.nilFunc] }),
  (191, { agg := false, size := 1, zero := [.nilFunc] }),
  (192, { agg := true, size := 3, zero := [.int .u8 0, .int .u8 0, .slice none 0 0], bytes := 32, fs := [(0, 1), (1, 1), (2, 1)] }),
  (193, { agg := true, size := 3, zero := [.int .u8 0, .int .u8 0, .slice none 0 0], bytes := 32, fs := [(0, 1), (1, 1), (2, 1)] }),
  (195, { agg := false, size := 1, zero := [.nilFunc] }),
  (197, { agg := false, size := 1, zero := [.nilFunc] }),
  (199, { agg := false, size := 1, zero := [.nilFunc] }),
  (200, { agg := false, size := 1, zero := [.nilFunc] }),
  (201, { agg := false, size := 1, zero := [.nilFunc] }),
  (202, { agg := false, size := 1, zero := [.nilFunc] }),
  (203, { agg := false, size := 1, zero := [.nilFunc] }),
  (204, { agg := false, size := 1, zero := [.int .u64 0] }),
  (205, { agg := false, size := 1, zero := [.int .u16 0], bytes := 2 }),
  (206, { agg := false, size := 1, zero := [.nilFunc] }),
  (208, { agg := false, size := 1, zero := [.nilFunc] }),
  (209, { agg := false, size := 1, zero := [.slice none 0 0], bytes := 24, sl := some (237, 3) }),
  (210, { agg := false, size := 1, zero := [.nilFunc] }),
  (211, { agg := false, size := 1, zero := [.nilFunc] }),
  (212, { agg := false, size := 1, zero := [.nilFunc] }),
  (213, { agg := true, size := 1, zero := [.pointer none], fs := [(0, 1)] }),
  (214, { agg := true, size := 1, zero := [.pointer none], fs := [(0, 1)] }),
  (215, { agg := false, size := 1, zero := [.pointer none] }),
  (216, { agg := false, size := 1, zero := [.nilIface], bytes := 16 }),
  (218, { agg := false, size := 1, zero := [.nilFunc] }),
  (219, { agg := false, size := 1, zero := [.nilIface], bytes := 16 }),
  (220, { agg := false, size := 1, zero := [.nilFunc] }),
  (221, { agg := false, size := 1, zero := [.nilIface], bytes := 16 }),
  (222, { agg := false, size := 1, zero := [.slice none 0 0], bytes := 24, sl := some (36, 1) }),
  (223, { agg := false, size := 1, zero := [.nilFunc] }),
  (224, { agg := true, size := 3, zero := [.int .i64 0, .int .i64 0, .bool false], bytes := 24, fs := [(0, 1), (1, 1), (2, 1)] }),
  (225, { agg := true, size := 3, zero := [.int .i64 0, .int .i64 0, .bool false], bytes := 24, fs := [(0, 1), (1, 1), (2, 1)] }),
  (226, { agg := true, size := 29, zero := [.int .i64 0, .int .i64 0, .int .i64 0, .int .i64 0, .int .i64 0, .int .i64 0, .int .i64 0, .int .i64 0, .int .i64 0, .int .i64 0, .int .i64 0, .int .i64 0, .int .i64 0, .int .i64 0, .int .i64 0, .int .i64 0, .int .i64 0, .int .i64 0, .int .i64 0, .int .i64 0, .slice none 0 0, .int .i64 0, .int .i64 0, .int .i64 0, .int .i64 0, .int .i64 0, .slice none 0 0, .int .i64 0, .int .i64 0], bytes := 264, fs := [(0, 27), (27, 2)] }),
  (227, { agg := true, size := 29, zero := [.int .i64 0, .int .i64 0, .int .i64 0, .int .i64 0, .int .i64 0, .int .i64 0, .int .i64 0, .int .i64 0, .int .i64 0, .int .i64 0, .int .i64 0, .int .i64 0, .int .i64 0, .int .i64 0, .int .i64 0, .int .i64 0, .int .i64 0, .int .i64 0, .int .i64 0, .int .i64 0, .slice none 0 0, .int .i64 0, .int .i64 0, .int .i64 0, .int .i64 0, .int .i64 0, .slice none 0 0, .int .i64 0, .int .i64 0], bytes := 264, fs := [(0, 27), (27, 2)] }),
  (228, { agg := false, size := 1, zero := [.nilFunc] }),
  (229, { agg := false, size := 1, zero := [.nilFunc] }),
  (230, { agg := true, size := 3, zero := [.int .i64 0, .int .i64 0, .bool false], bytes := 24, fs := [(0, 1), (1, 1), (2, 1)] }),
  (231, { agg := true, size := 3, zero := [.int .i64 0, .int .i64 0, .bool false], bytes := 24, fs := [(0, 1), (1, 1), (2, 1)] }),
  (232, { agg := false, size := 1, zero := [.nilFunc] }),
  (233, { agg := false, size := 1, zero := [.nilFunc] }),
  (234, { agg := false, size := 1, zero := [.nilFunc] }),
  (235, { agg := false, size := 1, zero := [.nilFunc] }),
  (236, { agg := true, size := 3, zero := [.int .i64 0, .int .i64 0, .int .i64 0], bytes := 24, fs := [(0, 1), (1, 1), (2, 1)] }),
  (237, { agg := true, size := 3, zero := [.int .i64 0, .int .i64 0, .int .i64 0], bytes := 24, fs := [(0, 1), (1, 1), (2, 1)] }),
  (238, { agg := false, size := 1, zero := [.nilFunc] }),
  (239, { agg := false, size := 1, zero := [.nilFunc] }),
  (240, { agg := false, size := 1, zero := [.nilFunc] }),
  (241, { agg := false, size := 1, zero := [.nilFunc] }),
  (242, { agg := false, size := 1, zero := [.nilFunc] }),
  (243, { agg := false, size := 1, zero := [.nilFunc] }),
  (244, { agg := false, size := 1, zero := [.nilFunc] }),
  (245, { agg := false, size := 1, zero := [.pointer none] }),
  (246, { agg := false, size := 1, zero := [.nilFunc] }),
  (247, { agg := true, size := 4, zero := [.pointer none, .pointer none, .pointer none, .string ByteArray.empty], bytes := 40, fs := [(0, 1), (1, 1), (2, 1), (3, 1)] }),
  (248, { agg := true, size := 4, zero := [.pointer none, .pointer none, .pointer none, .string ByteArray.empty], bytes := 40, fs := [(0, 1), (1, 1), (2, 1), (3, 1)] }),
  (249, { agg := true, size := 0, zero := [], bytes := 0, arr := some (0, 16, 1) }),
  (250, { agg := true, size := 0, zero := [], bytes := 0, fs := [(0, 0)] }),
  (251, { agg := true, size := 0, zero := [], bytes := 0, fs := [(0, 0)] }),
  (252, { agg := false, size := 1, zero := [.int .u8 0], bytes := 1 }),
  (253, { agg := false, size := 1, zero := [.int .u8 0], bytes := 1 }),
  (254, { agg := false, size := 1, zero := [.nilFunc] }),
  (255, { agg := false, size := 1, zero := [.pointer none] }),
  (256, { agg := false, size := 1, zero := [.int .i32 0], bytes := 4 }),
  (257, { agg := false, size := 1, zero := [.int .i32 0], bytes := 4 }),
  (258, { agg := true, size := 11, zero := [.int .u64 0, .int .u64 0, .int .u32 0, .int .u8 0, .int .u8 0, .int .u8 0, .int .u8 0, .nilFunc, .pointer none, .int .i32 0, .int .i32 0], bytes := 48, fs := [(0, 1), (1, 1), (2, 1), (3, 1), (4, 1), (5, 1), (6, 1), (7, 1), (8, 1), (9, 1), (10, 1)] }),
  (259, { agg := true, size := 11, zero := [.int .u64 0, .int .u64 0, .int .u32 0, .int .u8 0, .int .u8 0, .int .u8 0, .int .u8 0, .nilFunc, .pointer none, .int .i32 0, .int .i32 0], bytes := 48, fs := [(0, 1), (1, 1), (2, 1), (3, 1), (4, 1), (5, 1), (6, 1), (7, 1), (8, 1), (9, 1), (10, 1)] }),
  (260, { agg := false, size := 1, zero := [.nilFunc] }),
  (261, { agg := false, size := 1, zero := [.nilFunc] }),
  (262, { agg := false, size := 1, zero := [.nilFunc] }),
  (263, { agg := false, size := 1, zero := [.nilFunc] }),
  (264, { agg := false, size := 1, zero := [.nilFunc] }),
  (265, { agg := false, size := 1, zero := [.nilFunc] }),
  (266, { agg := false, size := 1, zero := [.nilFunc] }),
  (267, { agg := false, size := 1, zero := [.nilFunc] }),
  (268, { agg := true, size := 3, zero := [.int .i64 0, .int .u8 0, .int .i64 0], bytes := 24, fs := [(0, 1), (1, 1), (2, 1)] }),
  (269, { agg := true, size := 3, zero := [.int .i64 0, .int .u8 0, .int .i64 0], bytes := 24, fs := [(0, 1), (1, 1), (2, 1)] }),
  (270, { agg := true, size := 2, zero := [.string ByteArray.empty, .int .u8 0], bytes := 24, fs := [(0, 1), (1, 1)] }),
  (271, { agg := true, size := 2, zero := [.string ByteArray.empty, .int .u8 0], bytes := 24, fs := [(0, 1), (1, 1)] }),
  (272, { agg := true, size := 1, zero := [.string ByteArray.empty], bytes := 16, fs := [(0, 1)] }),
  (273, { agg := true, size := 1, zero := [.string ByteArray.empty], bytes := 16, fs := [(0, 1)] }),
  (274, { agg := false, size := 1, zero := [.pointer none] }),
  (275, { agg := true, size := 6, zero := [.int .i64 0, .bool false, .int .i64 0, .bool false, .int .i64 0, .bool false], bytes := 48, arr := some (3, 162, 2) }),
  (276, { agg := false, size := 1, zero := [.pointer none] }),
  (277, { agg := false, size := 1, zero := [.nilFunc] }),
  (278, { agg := true, size := 5, zero := [.int .i32 0, .int .u16 0, .int .u16 0, .int .u32 0, .int .u32 0], bytes := 16, fs := [(0, 1), (1, 1), (2, 1), (3, 1), (4, 1)] }),
  (279, { agg := true, size := 5, zero := [.int .i32 0, .int .u16 0, .int .u16 0, .int .u32 0, .int .u32 0], bytes := 16, fs := [(0, 1), (1, 1), (2, 1), (3, 1), (4, 1)] }),
  (280, { agg := false, size := 1, zero := [.slice none 0 0], bytes := 24, sl := some (283, 4) }),
  (281, { agg := false, size := 1, zero := [.int .i32 0], bytes := 4 }),
  (282, { agg := true, size := 4, zero := [.int .i32 0, .int .i32 0, .int .i32 0, .int .i32 0], bytes := 16, fs := [(0, 1), (1, 1), (2, 1), (3, 1)] }),
  (283, { agg := true, size := 4, zero := [.int .i32 0, .int .i32 0, .int .i32 0, .int .i32 0], bytes := 16, fs := [(0, 1), (1, 1), (2, 1), (3, 1)] }),
  (284, { agg := false, size := 1, zero := [.nilFunc] })]
set_option maxRecDepth 100000 in
theorem layOk : LayOk Tryz.prog lay = true := by kernel_rfl
theorem mixed : Tryz.prog.follows .mixedOrders = true := by kernel_rfl
end Go.Proofs.YtekcchmnncefhaaGreatDoor
namespace Go.Proofs.YtekcchmnncefhaaGreatDoor
open Go Go.Proofs.YtekcchmnncefhaaGreatDoorAB
set_option linter.unusedSimpArgs false
set_option linter.unusedVariables false
set_option maxRecDepth 20000
abbrev obet10 (x0 : Nat → Nat) (x1 : Nat → Nat) := (.cells [(.iface 245 (.pointer (some ⟨x0 4, x1 4, none⟩))), (.iface 245 (.pointer (some ⟨x0 1, x1 1, none⟩))), (.iface 245 (.pointer (some ⟨x0 0, x1 0, none⟩))), (.iface 245 (.pointer (some ⟨x0 6, x1 6, none⟩))), (.iface 245 (.pointer (some ⟨x0 5, x1 5, none⟩))), (.iface 245 (.pointer (some ⟨x0 2, x1 2, none⟩))), (.iface 245 (.pointer (some ⟨x0 3, x1 3, none⟩)))] 36 : AObj)
abbrev obet11 (x0 : _) (x1 : Nat → Nat) (x2 : Nat → Nat) := (.cells [I64 x0, (.iface 245 (.pointer (some ⟨x1 2, x2 2, none⟩)))] 140 : AObj)
theorem wk_ET1_0 {p : Prop} (h : p := by
  repeat' (first
    | (with_reducible exact absurd hc h)
    | ((first | (with_reducible apply gQ0) | ((with_reducible apply gQ1); exact wt_)); (first | (apply q_idxN (m := 0) layOk; (iterate 4 apply Eq.refl); exact (fun _ => rfl); apply Eq.refl; (focus (decide))) | (apply q_idxN (m := 1) layOk; (iterate 4 apply Eq.refl); exact (fun _ => rfl); apply Eq.refl; (focus (decide))) | (apply q_idxN (m := 2) layOk; (iterate 4 apply Eq.refl); exact (fun _ => rfl); apply Eq.refl; (focus (decide))) | (apply q_idxN (m := 3) layOk; (iterate 4 apply Eq.refl); exact (fun _ => rfl); apply Eq.refl; (focus (decide))) | (apply q_idxN (m := 4) layOk; (iterate 4 apply Eq.refl); exact (fun _ => rfl); apply Eq.refl; (focus (decide))) | (apply q_idxN (m := 5) layOk; (iterate 4 apply Eq.refl); exact (fun _ => rfl); apply Eq.refl; (focus (decide))) | (apply q_move; apply Eq.refl) | (apply q_assign; apply Eq.refl) | (apply q_int; (iterate 3 apply Eq.refl)) | (apply q_nilCheck; apply Eq.refl) | (apply q_fa layOk; (iterate 5 apply Eq.refl)) | (apply q_load layOk; (iterate 3 apply Eq.refl); exact lk_; apply Eq.refl) | (apply q_loadr layOk; (iterate 3 apply Eq.refl); exact lk_; apply Eq.refl) | (apply q_build layOk; (iterate 4 apply Eq.refl)) | (apply q_not; apply Eq.refl) | (apply q_box (k := ks _); apply Eq.refl; exact lk_; apply Eq.refl) | (apply q_alloc (k := ks _) layOk; apply Eq.refl; exact lk_; apply Eq.refl) | (apply q_pick_f; apply Eq.refl; apply Eq.refl) | (apply q_ifeq; (focus (kernel_rfl)); apply Eq.refl) | (apply q_pteq; (focus (kernel_rfl)); (focus (kernel_rfl)); apply Eq.refl; apply Eq.refl) | (apply q_ptne; (focus (kernel_rfl)); (focus (kernel_rfl)); apply Eq.refl; apply Eq.refl; exact lk_; exact lk_; apply Eq.refl; exact hne) | (apply q_buildS (k := kn) layOk; (iterate 8 apply Eq.refl); exact lk_; apply Eq.refl) | (apply q_len layOk; (iterate 4 apply Eq.refl)) | (apply q_nileq; (focus (kernel_rfl)); apply Eq.refl) | (apply q_extract; apply Eq.refl; apply Eq.refl) | (apply q_taF; (focus (kernel_rfl)); (focus (kernel_rfl)); apply Eq.refl; apply Eq.refl) | (apply q_taT; (focus (kernel_rfl)); apply Eq.refl) | (apply q_eqnil; (focus (kernel_rfl)); apply Eq.refl; apply Eq.refl) | (apply isF (f := 106); (refine q_callR rfl (alike_ne E O B 1 4 (hne _ _ (by decide) (by decide) (by decide))) rfl fd_ (by decide) ?_)) | (apply isF (f := 106); (refine q_call0 rfl (alike_eq E O 1) ?_)) | (apply isF (f := 106); (refine q_callR rfl (alike_ne E O B 0 4 (hne _ _ (by decide) (by decide) (by decide))) rfl fd_ (by decide) ?_)) | (apply isF (f := 106); (refine q_callR rfl (alike_ne E O B 0 1 (hne _ _ (by decide) (by decide) (by decide))) rfl fd_ (by decide) ?_)) | (apply isF (f := 106); (refine q_call0 rfl (alike_eq E O 0) ?_)) | (apply isF (f := 106); (refine q_callR rfl (alike_ne E O B 2 4 (hne _ _ (by decide) (by decide) (by decide))) rfl fd_ (by decide) ?_)) | (apply isF (f := 106); (refine q_callR rfl (alike_ne E O B 2 1 (hne _ _ (by decide) (by decide) (by decide))) rfl fd_ (by decide) ?_)) | (apply isF (f := 106); (refine q_callR rfl (alike_ne E O B 2 0 (hne _ _ (by decide) (by decide) (by decide))) rfl fd_ (by decide) ?_)) | (apply isF (f := 106); (refine q_callR rfl (alike_ne E O B 2 6 (hne _ _ (by decide) (by decide) (by decide))) rfl fd_ (by decide) ?_)) | (apply isF (f := 106); (refine q_callR rfl (alike_ne E O B 2 5 (hne _ _ (by decide) (by decide) (by decide))) rfl fd_ (by decide) ?_)) | (apply isF (f := 106); (refine q_call0 rfl (alike_eq E O 2) ?_)) | (apply isF (f := 41); (refine q_call0 rfl (ref_None9 ()) ?_)) | (apply isF (f := 35); (refine q_call0 rfl (ref_Bare _) ?_)) | (apply isF (f := 80); (refine q_callR rfl (sentinel_0 E O B hne) rfl fd_ (by decide) ?_)) | (apply isF (f := 80); (refine q_callR rfl (sentinel_1 E O B hne) rfl fd_ (by decide) ?_)) | (apply isF (f := 80); (refine q_callR rfl (sentinel_2 E O B hne) rfl fd_ (by decide) ?_)) | (apply isF (f := 12); (refine q_call0 rfl (ref_Placed _ _ (by decide)) ?_)) | (apply isF (f := 44); (refine q_callR rfl (fault_nil E O B) rfl fd_ (by decide) ?_)) | (apply isF (f := 43); (refine q_call0 rfl (same_fault _ _ _) ?_)) | (apply isF (f := 44); (refine q_callR rfl (fault_err0 E O B hne) rfl fd_ (by decide) ?_)) | (apply isF (f := 44); (refine q_callR rfl (fault_err1 E O B hne) rfl fd_ (by decide) ?_)) | (apply isF (f := 44); (refine q_callR rfl (fault_err2 E O B hne) rfl fd_ (by decide) ?_)) | (apply isF (f := 44); (refine q_callR rfl (fault_at2 E O B hne kn p) rfl fd_ (by decide) ?_)) | (apply e_store layOk; (iterate 3 apply Eq.refl); exact lk_; (iterate 5 apply Eq.refl))))
    | ((with_reducible apply gR); (first | refine RK.peelN rfl ?_ | refine RK.donef rfl ⟨_, rfl, ?_⟩ | refine RK.donet rfl (by kernel_rfl) ⟨_, rfl, ?_⟩))
    | ((with_reducible apply gQv); focus exact wf_)
    | ((with_reducible apply gK); (fail_if_success ((apply gM); (iterate 3 apply Eq.refl))); ((apply RKo.gsplit; (iterate 4 apply Eq.refl)) <;> (intro hc; (first | with_reducible exact ff' hc | exact absurd hc (by decide) | with_reducible exact ff hc | skip))))
    | ((with_reducible apply gW); (first | with_reducible apply WP.seq | refine WP.reg mixed (fun ks => _) (fun ks => rfl) (fun ks => ?_) | ((first | (apply cdD; apply Eq.refl) | (apply WP.condA; apply Eq.refl)) <;> (intro hc; (first | with_reducible exact ff' hc | exact absurd hc (by decide) | with_reducible exact ff hc | skip))) | apply WP.ret | apply WP.skip | apply WP.block))
    | (first | with_reducible apply thn_n | with_reducible apply thn_r | with_reducible apply blk_n | with_reducible apply blk_r)
    | (refine Endz.mk' en_ rv_ (by rfl) sb_)
    | (exact ⟨1, (by decide), (by show 7 - 1 < 7 - 0; decide), Wk.of ⟨rfl, rfl, rfl, trivial⟩ (by repeat (first | exact List.nil_sublist _ | exact List.Sublist.refl _ | apply List.Sublist.cons_cons | apply List.Sublist.cons))⟩)
    | (exact ⟨2, (by decide), (by show 7 - 2 < 7 - 1; decide), Wk.of ⟨rfl, rfl, rfl, trivial⟩ (by repeat (first | exact List.nil_sublist _ | exact List.Sublist.refl _ | apply List.Sublist.cons_cons | apply List.Sublist.cons))⟩)
    | (exact ⟨3, (by decide), (by show 7 - 3 < 7 - 2; decide), Wk.of ⟨rfl, rfl, rfl, trivial⟩ (by repeat (first | exact List.nil_sublist _ | exact List.Sublist.refl _ | apply List.Sublist.cons_cons | apply List.Sublist.cons))⟩)
    | (exact ⟨4, (by decide), (by show 7 - 4 < 7 - 3; decide), Wk.of ⟨rfl, rfl, rfl, trivial⟩ (by repeat (first | exact List.nil_sublist _ | exact List.Sublist.refl _ | apply List.Sublist.cons_cons | apply List.Sublist.cons))⟩)
    | (exact ⟨5, (by decide), (by show 7 - 5 < 7 - 4; decide), Wk.of ⟨rfl, rfl, rfl, trivial⟩ (by repeat (first | exact List.nil_sublist _ | exact List.Sublist.refl _ | apply List.Sublist.cons_cons | apply List.Sublist.cons))⟩))) : p := h
/-- The globals that are errors. -/
def isE (g : Nat) : Bool := decide (g < 7)
abbrev errG (E O : Nat → Nat) (g : Nat) : Value := (.iface 245 (.pointer (some ⟨E g, O g, none⟩)))
set_option maxHeartbeats 4000000 in
theorem alike_eq (E O : Nat → Nat) (g : Nat) : Ctr Tryz.prog 7 106 [(.iface 245 (.pointer (some ⟨E g, O g, none⟩))), (.iface 245 (.pointer (some ⟨E g, O g, none⟩)))] [] (.bool true) [] := by
  refine Ctr.by layOk Tryz.func106 Tryz.ntmps106 rfl rfl rfl rfl rfl ?_
  exact wk_ET1_0
set_option maxHeartbeats 4000000 in
theorem alike_ne (E O B : Nat → Nat) (g h : Nat) (hne : (B g, O g) ≠ (B h, O h)) : Ctr Tryz.prog 7 106 [(.iface 245 (.pointer (some ⟨E g, O g, none⟩))), (.iface 245 (.pointer (some ⟨E h, O h, none⟩)))] [(E g, .mark (B g)), (E h, .mark (B h))] (.bool false) [.mark (B g), .mark (B h)] := by
  refine Ctr.by layOk Tryz.func106 Tryz.ntmps106 rfl rfl rfl rfl rfl ?_
  exact wk_ET1_0
set_option maxHeartbeats 4000000 in
theorem see_sentinels (E O : Nat → Nat) (kn : Nat) : Ctr Tryz.prog 7 105 [] [(0, .ro 0 [(.iface 245 (.pointer (some ⟨E 0, O 0, none⟩)))]), (1, .ro 0 [(.iface 245 (.pointer (some ⟨E 1, O 1, none⟩)))]), (2, .ro 0 [(.iface 245 (.pointer (some ⟨E 2, O 2, none⟩)))]), (3, .ro 0 [(.iface 245 (.pointer (some ⟨E 3, O 3, none⟩)))]), (4, .ro 0 [(.iface 245 (.pointer (some ⟨E 4, O 4, none⟩)))]), (5, .ro 0 [(.iface 245 (.pointer (some ⟨E 5, O 5, none⟩)))]), (6, .ro 0 [(.iface 245 (.pointer (some ⟨E 6, O 6, none⟩)))]), (kn, .gone)] (.slice (some ⟨kn, 0, none⟩) 7 7) [.ro 0 [(.iface 245 (.pointer (some ⟨E 0, O 0, none⟩)))], .ro 0 [(.iface 245 (.pointer (some ⟨E 1, O 1, none⟩)))], .ro 0 [(.iface 245 (.pointer (some ⟨E 2, O 2, none⟩)))], .ro 0 [(.iface 245 (.pointer (some ⟨E 3, O 3, none⟩)))], .ro 0 [(.iface 245 (.pointer (some ⟨E 4, O 4, none⟩)))], .ro 0 [(.iface 245 (.pointer (some ⟨E 5, O 5, none⟩)))], .ro 0 [(.iface 245 (.pointer (some ⟨E 6, O 6, none⟩)))], obet10 E O] := by
  refine Ctr.by layOk Tryz.func105 Tryz.ntmps105 rfl rfl rfl rfl rfl ?_
  exact wk_ET1_0

set_option maxHeartbeats 8000000 in
theorem sentinel_1 (E O B : Nat → Nat) (hne : ∀ g h : Nat, isE g = true → isE h = true → g ≠ h → (B g, O g) ≠ (B h, O h)) : Ctr Tryz.prog 7 80 [(.iface 245 (.pointer (some ⟨E 1, O 1, none⟩)))] [(0, .ro 0 [(.iface 245 (.pointer (some ⟨E 0, O 0, none⟩)))]), (1, .ro 0 [(.iface 245 (.pointer (some ⟨E 1, O 1, none⟩)))]), (2, .ro 0 [(.iface 245 (.pointer (some ⟨E 2, O 2, none⟩)))]), (3, .ro 0 [(.iface 245 (.pointer (some ⟨E 3, O 3, none⟩)))]), (4, .ro 0 [(.iface 245 (.pointer (some ⟨E 4, O 4, none⟩)))]), (5, .ro 0 [(.iface 245 (.pointer (some ⟨E 5, O 5, none⟩)))]), (6, .ro 0 [(.iface 245 (.pointer (some ⟨E 6, O 6, none⟩)))]), (E 0, .mark (B 0)), (E 1, .mark (B 1)), (E 2, .mark (B 2)), (E 3, .mark (B 3)), (E 4, .mark (B 4)), (E 5, .mark (B 5)), (E 6, .mark (B 6))] (I64 102) [.ro 0 [(.iface 245 (.pointer (some ⟨E 0, O 0, none⟩)))], .ro 0 [(.iface 245 (.pointer (some ⟨E 1, O 1, none⟩)))], .ro 0 [(.iface 245 (.pointer (some ⟨E 2, O 2, none⟩)))], .ro 0 [(.iface 245 (.pointer (some ⟨E 3, O 3, none⟩)))], .ro 0 [(.iface 245 (.pointer (some ⟨E 4, O 4, none⟩)))], .ro 0 [(.iface 245 (.pointer (some ⟨E 5, O 5, none⟩)))], .ro 0 [(.iface 245 (.pointer (some ⟨E 6, O 6, none⟩)))], .mark (B 0), .mark (B 1), .mark (B 2), .mark (B 3), .mark (B 4), .mark (B 5), .mark (B 6)] := by
  refine Ctr.by layOk Tryz.func80 Tryz.ntmps80 rfl rfl rfl rfl rfl ?_
  repeat' (first
    | ((with_reducible apply gQ0); (first | (apply q_assign; apply Eq.refl) | (apply isF (f := 105); (refine q_callW rfl (see_sentinels E O (ks _)) fd_ (by decide) rfl rfl ?_))))
    | ((with_reducible apply gR); (first | refine RK.peelN rfl ?_ | refine RK.donef rfl ⟨_, rfl, ?_⟩))
    | ((with_reducible apply gW); (first | with_reducible apply WP.seq | refine WP.reg mixed (fun ks => _) (fun ks => rfl) (fun ks => ?_) | apply WP.block))
    | (with_reducible apply thn_n))
  rename_i kn
  refine WP.loopI (n := 20) (α := Nat) (fun i => [(0, some (.iface 245 (.pointer (some ⟨E 1, O 1, none⟩)))), (3, some (.slice (some ⟨kn 0, 0, none⟩) 7 7)), (4, some (I64 (i : Int)))])
    (fun i => [(0, .ro 0 [(.iface 245 (.pointer (some ⟨E 0, O 0, none⟩)))]), (1, .ro 0 [(.iface 245 (.pointer (some ⟨E 1, O 1, none⟩)))]), (2, .ro 0 [(.iface 245 (.pointer (some ⟨E 2, O 2, none⟩)))]), (3, .ro 0 [(.iface 245 (.pointer (some ⟨E 3, O 3, none⟩)))]), (4, .ro 0 [(.iface 245 (.pointer (some ⟨E 4, O 4, none⟩)))]), (5, .ro 0 [(.iface 245 (.pointer (some ⟨E 5, O 5, none⟩)))]), (6, .ro 0 [(.iface 245 (.pointer (some ⟨E 6, O 6, none⟩)))]), (E 0, .mark (B 0)), (E 1, .mark (B 1)), (E 2, .mark (B 2)), (E 3, .mark (B 3)), (E 4, .mark (B 4)), (E 5, .mark (B 5)), (E 6, .mark (B 6)), (kn 0, obet10 E O)]) (fun i => i ≤ 1) (fun i => 7 - i) 0 (Wk.of ⟨rfl, rfl, rfl, trivial⟩ (by repeat (first | exact List.nil_sublist _ | exact List.Sublist.refl _ | apply List.Sublist.cons_cons | apply List.Sublist.cons))) (Nat.zero_le _) (fun i iy => ?_)
  have iy : i ≤ 1 := iy
  match i, iy with
  | 0, _ =>
    exact wk_ET1_0
  | 1, _ =>
    exact wk_ET1_0
  | i + 2, h => exact absurd h (by omega)


set_option maxHeartbeats 8000000 in
theorem sentinel_0 (E O B : Nat → Nat) (hne : ∀ g h : Nat, isE g = true → isE h = true → g ≠ h → (B g, O g) ≠ (B h, O h)) : Ctr Tryz.prog 7 80 [(.iface 245 (.pointer (some ⟨E 0, O 0, none⟩)))] [(0, .ro 0 [(.iface 245 (.pointer (some ⟨E 0, O 0, none⟩)))]), (1, .ro 0 [(.iface 245 (.pointer (some ⟨E 1, O 1, none⟩)))]), (2, .ro 0 [(.iface 245 (.pointer (some ⟨E 2, O 2, none⟩)))]), (3, .ro 0 [(.iface 245 (.pointer (some ⟨E 3, O 3, none⟩)))]), (4, .ro 0 [(.iface 245 (.pointer (some ⟨E 4, O 4, none⟩)))]), (5, .ro 0 [(.iface 245 (.pointer (some ⟨E 5, O 5, none⟩)))]), (6, .ro 0 [(.iface 245 (.pointer (some ⟨E 6, O 6, none⟩)))]), (E 0, .mark (B 0)), (E 1, .mark (B 1)), (E 2, .mark (B 2)), (E 3, .mark (B 3)), (E 4, .mark (B 4)), (E 5, .mark (B 5)), (E 6, .mark (B 6))] (I64 103) [.ro 0 [(.iface 245 (.pointer (some ⟨E 0, O 0, none⟩)))], .ro 0 [(.iface 245 (.pointer (some ⟨E 1, O 1, none⟩)))], .ro 0 [(.iface 245 (.pointer (some ⟨E 2, O 2, none⟩)))], .ro 0 [(.iface 245 (.pointer (some ⟨E 3, O 3, none⟩)))], .ro 0 [(.iface 245 (.pointer (some ⟨E 4, O 4, none⟩)))], .ro 0 [(.iface 245 (.pointer (some ⟨E 5, O 5, none⟩)))], .ro 0 [(.iface 245 (.pointer (some ⟨E 6, O 6, none⟩)))], .mark (B 0), .mark (B 1), .mark (B 2), .mark (B 3), .mark (B 4), .mark (B 5), .mark (B 6)] := by
  refine Ctr.by layOk Tryz.func80 Tryz.ntmps80 rfl rfl rfl rfl rfl ?_
  repeat' (first
    | ((with_reducible apply gQ0); (first | (apply q_assign; apply Eq.refl) | (apply isF (f := 105); (refine q_callW rfl (see_sentinels E O (ks _)) fd_ (by decide) rfl rfl ?_))))
    | ((with_reducible apply gR); (first | refine RK.peelN rfl ?_ | refine RK.donef rfl ⟨_, rfl, ?_⟩))
    | ((with_reducible apply gW); (first | with_reducible apply WP.seq | refine WP.reg mixed (fun ks => _) (fun ks => rfl) (fun ks => ?_) | apply WP.block))
    | (with_reducible apply thn_n))
  rename_i kn
  refine WP.loopI (n := 20) (α := Nat) (fun i => [(0, some (.iface 245 (.pointer (some ⟨E 0, O 0, none⟩)))), (3, some (.slice (some ⟨kn 0, 0, none⟩) 7 7)), (4, some (I64 (i : Int)))])
    (fun i => [(0, .ro 0 [(.iface 245 (.pointer (some ⟨E 0, O 0, none⟩)))]), (1, .ro 0 [(.iface 245 (.pointer (some ⟨E 1, O 1, none⟩)))]), (2, .ro 0 [(.iface 245 (.pointer (some ⟨E 2, O 2, none⟩)))]), (3, .ro 0 [(.iface 245 (.pointer (some ⟨E 3, O 3, none⟩)))]), (4, .ro 0 [(.iface 245 (.pointer (some ⟨E 4, O 4, none⟩)))]), (5, .ro 0 [(.iface 245 (.pointer (some ⟨E 5, O 5, none⟩)))]), (6, .ro 0 [(.iface 245 (.pointer (some ⟨E 6, O 6, none⟩)))]), (E 0, .mark (B 0)), (E 1, .mark (B 1)), (E 2, .mark (B 2)), (E 3, .mark (B 3)), (E 4, .mark (B 4)), (E 5, .mark (B 5)), (E 6, .mark (B 6)), (kn 0, obet10 E O)]) (fun i => i ≤ 2) (fun i => 7 - i) 0 (Wk.of ⟨rfl, rfl, rfl, trivial⟩ (by repeat (first | exact List.nil_sublist _ | exact List.Sublist.refl _ | apply List.Sublist.cons_cons | apply List.Sublist.cons))) (Nat.zero_le _) (fun i iy => ?_)
  have iy : i ≤ 2 := iy
  match i, iy with
  | 0, _ =>
    exact wk_ET1_0
  | 1, _ =>
    exact wk_ET1_0
  | 2, _ =>
    exact wk_ET1_0
  | i + 3, h => exact absurd h (by omega)


set_option maxHeartbeats 8000000 in
theorem sentinel_2 (E O B : Nat → Nat) (hne : ∀ g h : Nat, isE g = true → isE h = true → g ≠ h → (B g, O g) ≠ (B h, O h)) : Ctr Tryz.prog 7 80 [(.iface 245 (.pointer (some ⟨E 2, O 2, none⟩)))] [(0, .ro 0 [(.iface 245 (.pointer (some ⟨E 0, O 0, none⟩)))]), (1, .ro 0 [(.iface 245 (.pointer (some ⟨E 1, O 1, none⟩)))]), (2, .ro 0 [(.iface 245 (.pointer (some ⟨E 2, O 2, none⟩)))]), (3, .ro 0 [(.iface 245 (.pointer (some ⟨E 3, O 3, none⟩)))]), (4, .ro 0 [(.iface 245 (.pointer (some ⟨E 4, O 4, none⟩)))]), (5, .ro 0 [(.iface 245 (.pointer (some ⟨E 5, O 5, none⟩)))]), (6, .ro 0 [(.iface 245 (.pointer (some ⟨E 6, O 6, none⟩)))]), (E 0, .mark (B 0)), (E 1, .mark (B 1)), (E 2, .mark (B 2)), (E 3, .mark (B 3)), (E 4, .mark (B 4)), (E 5, .mark (B 5)), (E 6, .mark (B 6))] (I64 106) [.ro 0 [(.iface 245 (.pointer (some ⟨E 0, O 0, none⟩)))], .ro 0 [(.iface 245 (.pointer (some ⟨E 1, O 1, none⟩)))], .ro 0 [(.iface 245 (.pointer (some ⟨E 2, O 2, none⟩)))], .ro 0 [(.iface 245 (.pointer (some ⟨E 3, O 3, none⟩)))], .ro 0 [(.iface 245 (.pointer (some ⟨E 4, O 4, none⟩)))], .ro 0 [(.iface 245 (.pointer (some ⟨E 5, O 5, none⟩)))], .ro 0 [(.iface 245 (.pointer (some ⟨E 6, O 6, none⟩)))], .mark (B 0), .mark (B 1), .mark (B 2), .mark (B 3), .mark (B 4), .mark (B 5), .mark (B 6)] := by
  refine Ctr.by layOk Tryz.func80 Tryz.ntmps80 rfl rfl rfl rfl rfl ?_
  repeat' (first
    | ((with_reducible apply gQ0); (first | (apply q_assign; apply Eq.refl) | (apply isF (f := 105); (refine q_callW rfl (see_sentinels E O (ks _)) fd_ (by decide) rfl rfl ?_))))
    | ((with_reducible apply gR); (first | refine RK.peelN rfl ?_ | refine RK.donef rfl ⟨_, rfl, ?_⟩))
    | ((with_reducible apply gW); (first | with_reducible apply WP.seq | refine WP.reg mixed (fun ks => _) (fun ks => rfl) (fun ks => ?_) | apply WP.block))
    | (with_reducible apply thn_n))
  rename_i kn
  refine WP.loopI (n := 20) (α := Nat) (fun i => [(0, some (.iface 245 (.pointer (some ⟨E 2, O 2, none⟩)))), (3, some (.slice (some ⟨kn 0, 0, none⟩) 7 7)), (4, some (I64 (i : Int)))])
    (fun i => [(0, .ro 0 [(.iface 245 (.pointer (some ⟨E 0, O 0, none⟩)))]), (1, .ro 0 [(.iface 245 (.pointer (some ⟨E 1, O 1, none⟩)))]), (2, .ro 0 [(.iface 245 (.pointer (some ⟨E 2, O 2, none⟩)))]), (3, .ro 0 [(.iface 245 (.pointer (some ⟨E 3, O 3, none⟩)))]), (4, .ro 0 [(.iface 245 (.pointer (some ⟨E 4, O 4, none⟩)))]), (5, .ro 0 [(.iface 245 (.pointer (some ⟨E 5, O 5, none⟩)))]), (6, .ro 0 [(.iface 245 (.pointer (some ⟨E 6, O 6, none⟩)))]), (E 0, .mark (B 0)), (E 1, .mark (B 1)), (E 2, .mark (B 2)), (E 3, .mark (B 3)), (E 4, .mark (B 4)), (E 5, .mark (B 5)), (E 6, .mark (B 6)), (kn 0, obet10 E O)]) (fun i => i ≤ 5) (fun i => 7 - i) 0 (Wk.of ⟨rfl, rfl, rfl, trivial⟩ (by repeat (first | exact List.nil_sublist _ | exact List.Sublist.refl _ | apply List.Sublist.cons_cons | apply List.Sublist.cons))) (Nat.zero_le _) (fun i iy => ?_)
  have iy : i ≤ 5 := iy
  match i, iy with
  | 0, _ =>
    exact wk_ET1_0
  | 1, _ =>
    exact wk_ET1_0
  | 2, _ =>
    exact wk_ET1_0
  | 3, _ =>
    exact wk_ET1_0
  | 4, _ =>
    exact wk_ET1_0
  | 5, _ =>
    exact wk_ET1_0
  | i + 6, h => exact absurd h (by omega)

set_option maxHeartbeats 4000000 in
theorem ref_Bare (c : Int) : Ctr Tryz.prog 7 35 [I64 c] [] (.agg #[I64 (c), .bool false, I64 0]) [] := by
  refine Ctr.by layOk Tryz.func35 Tryz.ntmps35 rfl rfl rfl rfl rfl ?_
  exact wk_ET1_0
set_option maxHeartbeats 4000000 in
theorem ref_Placed (c p : Int) (h : ¬ c = 0) : Ctr Tryz.prog 7 12 [I64 c, I64 p] [] (.agg #[I64 (c), .bool true, I64 (p)]) [] := by
  refine Ctr.by layOk Tryz.func12 Tryz.ntmps12 rfl rfl rfl rfl rfl ?_
  exact wk_ET1_0
set_option maxHeartbeats 4000000 in
theorem ref_None9 (u : Unit) : Ctr Tryz.prog 7 41 [] [] (.agg #[I64 0, .bool false, I64 0]) [] := by
  refine Ctr.by layOk Tryz.func41 Tryz.ntmps41 rfl rfl rfl rfl rfl ?_
  exact wk_ET1_0
set_option maxHeartbeats 4000000 in
theorem same_fault (a b : Int) (p : Bool) : Ctr Tryz.prog 7 43 [.agg #[I64 a, .bool p, I64 b], .agg #[I64 a, .bool p, I64 b]] [] (.bool true) [] := by
  refine Ctr.by layOk Tryz.func43 Tryz.ntmps43 rfl rfl rfl rfl rfl ?_
  repeat' (first
    | ((first | (with_reducible apply gQ0) | ((with_reducible apply gQ1); exact wt_)); (first | (apply q_move; apply Eq.refl) | (apply q_assign; apply Eq.refl) | (apply q_int; (iterate 3 apply Eq.refl)) | (apply q_fa layOk; (iterate 5 apply Eq.refl)) | (apply q_load layOk; (iterate 3 apply Eq.refl); exact lk_; apply Eq.refl) | (apply q_box (k := ks _); apply Eq.refl; exact lk_; apply Eq.refl) | (apply q_pick_t; apply Eq.refl; apply Eq.refl) | (apply q_beq; (focus (with_reducible exact Tryz.underlying4)); apply Eq.refl; apply Eq.refl)))
    | ((with_reducible apply gR); (first | refine RK.peelN rfl ?_ | refine RK.donef rfl ⟨_, rfl, ?_⟩))
    | ((with_reducible apply gQv); focus exact wf_)
    | ((with_reducible apply gK); (fail_if_success ((apply gM); (iterate 3 apply Eq.refl))); ((apply gsD; (iterate 4 apply Eq.refl)) <;> (intro hc; (first | exact absurd rfl hc | skip))))
    | ((with_reducible apply gW); (first | with_reducible apply WP.seq | refine WP.reg mixed (fun ks => _) (fun ks => rfl) (fun ks => ?_) | apply WP.ret))
    | (with_reducible apply thn_n)
    | (refine Endz.mk' en_ rv_ (by first | rfl | exact congrArg Value.bool (decide_eq_true rfl) | exact congrArg Value.bool (beq_self_eq_true _)) sb_))
set_option maxHeartbeats 4000000 in
theorem fault_nil (E O B : Nat → Nat) : Ctr Tryz.prog 7 44 [.nilIface] [(0, .ro 0 [(.iface 245 (.pointer (some ⟨E 0, O 0, none⟩)))]), (1, .ro 0 [(.iface 245 (.pointer (some ⟨E 1, O 1, none⟩)))]), (2, .ro 0 [(.iface 245 (.pointer (some ⟨E 2, O 2, none⟩)))]), (3, .ro 0 [(.iface 245 (.pointer (some ⟨E 3, O 3, none⟩)))]), (4, .ro 0 [(.iface 245 (.pointer (some ⟨E 4, O 4, none⟩)))]), (5, .ro 0 [(.iface 245 (.pointer (some ⟨E 5, O 5, none⟩)))]), (6, .ro 0 [(.iface 245 (.pointer (some ⟨E 6, O 6, none⟩)))]), (E 0, .mark (B 0)), (E 1, .mark (B 1)), (E 2, .mark (B 2)), (E 3, .mark (B 3)), (E 4, .mark (B 4)), (E 5, .mark (B 5)), (E 6, .mark (B 6))] (.agg #[I64 0, .bool false, I64 0]) [.ro 0 [(.iface 245 (.pointer (some ⟨E 0, O 0, none⟩)))], .ro 0 [(.iface 245 (.pointer (some ⟨E 1, O 1, none⟩)))], .ro 0 [(.iface 245 (.pointer (some ⟨E 2, O 2, none⟩)))], .ro 0 [(.iface 245 (.pointer (some ⟨E 3, O 3, none⟩)))], .ro 0 [(.iface 245 (.pointer (some ⟨E 4, O 4, none⟩)))], .ro 0 [(.iface 245 (.pointer (some ⟨E 5, O 5, none⟩)))], .ro 0 [(.iface 245 (.pointer (some ⟨E 6, O 6, none⟩)))], .mark (B 0), .mark (B 1), .mark (B 2), .mark (B 3), .mark (B 4), .mark (B 5), .mark (B 6)] := by
  refine Ctr.by layOk Tryz.func44 Tryz.ntmps44 rfl rfl rfl rfl rfl ?_
  exact wk_ET1_0
set_option maxHeartbeats 4000000 in
theorem fault_err0 (E O B : Nat → Nat) (hne : ∀ g h : Nat, isE g = true → isE h = true → g ≠ h → (B g, O g) ≠ (B h, O h)) : Ctr Tryz.prog 7 44 [(.iface 245 (.pointer (some ⟨E 0, O 0, none⟩)))] [(0, .ro 0 [(.iface 245 (.pointer (some ⟨E 0, O 0, none⟩)))]), (1, .ro 0 [(.iface 245 (.pointer (some ⟨E 1, O 1, none⟩)))]), (2, .ro 0 [(.iface 245 (.pointer (some ⟨E 2, O 2, none⟩)))]), (3, .ro 0 [(.iface 245 (.pointer (some ⟨E 3, O 3, none⟩)))]), (4, .ro 0 [(.iface 245 (.pointer (some ⟨E 4, O 4, none⟩)))]), (5, .ro 0 [(.iface 245 (.pointer (some ⟨E 5, O 5, none⟩)))]), (6, .ro 0 [(.iface 245 (.pointer (some ⟨E 6, O 6, none⟩)))]), (E 0, .mark (B 0)), (E 1, .mark (B 1)), (E 2, .mark (B 2)), (E 3, .mark (B 3)), (E 4, .mark (B 4)), (E 5, .mark (B 5)), (E 6, .mark (B 6))] (.agg #[I64 (103), .bool false, I64 0]) [.ro 0 [(.iface 245 (.pointer (some ⟨E 0, O 0, none⟩)))], .ro 0 [(.iface 245 (.pointer (some ⟨E 1, O 1, none⟩)))], .ro 0 [(.iface 245 (.pointer (some ⟨E 2, O 2, none⟩)))], .ro 0 [(.iface 245 (.pointer (some ⟨E 3, O 3, none⟩)))], .ro 0 [(.iface 245 (.pointer (some ⟨E 4, O 4, none⟩)))], .ro 0 [(.iface 245 (.pointer (some ⟨E 5, O 5, none⟩)))], .ro 0 [(.iface 245 (.pointer (some ⟨E 6, O 6, none⟩)))], .mark (B 0), .mark (B 1), .mark (B 2), .mark (B 3), .mark (B 4), .mark (B 5), .mark (B 6)] := by
  refine Ctr.by layOk Tryz.func44 Tryz.ntmps44 rfl rfl rfl rfl rfl ?_
  exact wk_ET1_0
set_option maxHeartbeats 4000000 in
theorem fault_err1 (E O B : Nat → Nat) (hne : ∀ g h : Nat, isE g = true → isE h = true → g ≠ h → (B g, O g) ≠ (B h, O h)) : Ctr Tryz.prog 7 44 [(.iface 245 (.pointer (some ⟨E 1, O 1, none⟩)))] [(0, .ro 0 [(.iface 245 (.pointer (some ⟨E 0, O 0, none⟩)))]), (1, .ro 0 [(.iface 245 (.pointer (some ⟨E 1, O 1, none⟩)))]), (2, .ro 0 [(.iface 245 (.pointer (some ⟨E 2, O 2, none⟩)))]), (3, .ro 0 [(.iface 245 (.pointer (some ⟨E 3, O 3, none⟩)))]), (4, .ro 0 [(.iface 245 (.pointer (some ⟨E 4, O 4, none⟩)))]), (5, .ro 0 [(.iface 245 (.pointer (some ⟨E 5, O 5, none⟩)))]), (6, .ro 0 [(.iface 245 (.pointer (some ⟨E 6, O 6, none⟩)))]), (E 0, .mark (B 0)), (E 1, .mark (B 1)), (E 2, .mark (B 2)), (E 3, .mark (B 3)), (E 4, .mark (B 4)), (E 5, .mark (B 5)), (E 6, .mark (B 6))] (.agg #[I64 (102), .bool false, I64 0]) [.ro 0 [(.iface 245 (.pointer (some ⟨E 0, O 0, none⟩)))], .ro 0 [(.iface 245 (.pointer (some ⟨E 1, O 1, none⟩)))], .ro 0 [(.iface 245 (.pointer (some ⟨E 2, O 2, none⟩)))], .ro 0 [(.iface 245 (.pointer (some ⟨E 3, O 3, none⟩)))], .ro 0 [(.iface 245 (.pointer (some ⟨E 4, O 4, none⟩)))], .ro 0 [(.iface 245 (.pointer (some ⟨E 5, O 5, none⟩)))], .ro 0 [(.iface 245 (.pointer (some ⟨E 6, O 6, none⟩)))], .mark (B 0), .mark (B 1), .mark (B 2), .mark (B 3), .mark (B 4), .mark (B 5), .mark (B 6)] := by
  refine Ctr.by layOk Tryz.func44 Tryz.ntmps44 rfl rfl rfl rfl rfl ?_
  exact wk_ET1_0
set_option maxHeartbeats 4000000 in
theorem fault_err2 (E O B : Nat → Nat) (hne : ∀ g h : Nat, isE g = true → isE h = true → g ≠ h → (B g, O g) ≠ (B h, O h)) : Ctr Tryz.prog 7 44 [(.iface 245 (.pointer (some ⟨E 2, O 2, none⟩)))] [(0, .ro 0 [(.iface 245 (.pointer (some ⟨E 0, O 0, none⟩)))]), (1, .ro 0 [(.iface 245 (.pointer (some ⟨E 1, O 1, none⟩)))]), (2, .ro 0 [(.iface 245 (.pointer (some ⟨E 2, O 2, none⟩)))]), (3, .ro 0 [(.iface 245 (.pointer (some ⟨E 3, O 3, none⟩)))]), (4, .ro 0 [(.iface 245 (.pointer (some ⟨E 4, O 4, none⟩)))]), (5, .ro 0 [(.iface 245 (.pointer (some ⟨E 5, O 5, none⟩)))]), (6, .ro 0 [(.iface 245 (.pointer (some ⟨E 6, O 6, none⟩)))]), (E 0, .mark (B 0)), (E 1, .mark (B 1)), (E 2, .mark (B 2)), (E 3, .mark (B 3)), (E 4, .mark (B 4)), (E 5, .mark (B 5)), (E 6, .mark (B 6))] (.agg #[I64 (106), .bool false, I64 0]) [.ro 0 [(.iface 245 (.pointer (some ⟨E 0, O 0, none⟩)))], .ro 0 [(.iface 245 (.pointer (some ⟨E 1, O 1, none⟩)))], .ro 0 [(.iface 245 (.pointer (some ⟨E 2, O 2, none⟩)))], .ro 0 [(.iface 245 (.pointer (some ⟨E 3, O 3, none⟩)))], .ro 0 [(.iface 245 (.pointer (some ⟨E 4, O 4, none⟩)))], .ro 0 [(.iface 245 (.pointer (some ⟨E 5, O 5, none⟩)))], .ro 0 [(.iface 245 (.pointer (some ⟨E 6, O 6, none⟩)))], .mark (B 0), .mark (B 1), .mark (B 2), .mark (B 3), .mark (B 4), .mark (B 5), .mark (B 6)] := by
  refine Ctr.by layOk Tryz.func44 Tryz.ntmps44 rfl rfl rfl rfl rfl ?_
  exact wk_ET1_0
set_option maxHeartbeats 4000000 in
theorem fault_at2 (E O B : Nat → Nat) (hne : ∀ g h : Nat, isE g = true → isE h = true → g ≠ h → (B g, O g) ≠ (B h, O h)) (kn : Nat) (p : Int) : Ctr Tryz.prog 7 44 [.iface 138 (pP kn)] [(0, .ro 0 [(.iface 245 (.pointer (some ⟨E 0, O 0, none⟩)))]), (1, .ro 0 [(.iface 245 (.pointer (some ⟨E 1, O 1, none⟩)))]), (2, .ro 0 [(.iface 245 (.pointer (some ⟨E 2, O 2, none⟩)))]), (3, .ro 0 [(.iface 245 (.pointer (some ⟨E 3, O 3, none⟩)))]), (4, .ro 0 [(.iface 245 (.pointer (some ⟨E 4, O 4, none⟩)))]), (5, .ro 0 [(.iface 245 (.pointer (some ⟨E 5, O 5, none⟩)))]), (6, .ro 0 [(.iface 245 (.pointer (some ⟨E 6, O 6, none⟩)))]), (E 0, .mark (B 0)), (E 1, .mark (B 1)), (E 2, .mark (B 2)), (E 3, .mark (B 3)), (E 4, .mark (B 4)), (E 5, .mark (B 5)), (E 6, .mark (B 6)), (kn, obet11 p E O)] (.agg #[I64 (106), .bool true, I64 (p)]) [.ro 0 [(.iface 245 (.pointer (some ⟨E 0, O 0, none⟩)))], .ro 0 [(.iface 245 (.pointer (some ⟨E 1, O 1, none⟩)))], .ro 0 [(.iface 245 (.pointer (some ⟨E 2, O 2, none⟩)))], .ro 0 [(.iface 245 (.pointer (some ⟨E 3, O 3, none⟩)))], .ro 0 [(.iface 245 (.pointer (some ⟨E 4, O 4, none⟩)))], .ro 0 [(.iface 245 (.pointer (some ⟨E 5, O 5, none⟩)))], .ro 0 [(.iface 245 (.pointer (some ⟨E 6, O 6, none⟩)))], .mark (B 0), .mark (B 1), .mark (B 2), .mark (B 3), .mark (B 4), .mark (B 5), .mark (B 6), obet11 p E O] := by
  refine Ctr.by layOk Tryz.func44 Tryz.ntmps44 rfl rfl rfl rfl rfl ?_
  exact wk_ET1_0
set_option maxHeartbeats 4000000 in
theorem see_nil (E O B : Nat → Nat) : Ctr Tryz.prog 7 8 [.nilIface, .agg #[I64 0, .bool false, I64 0]] [(0, .ro 0 [(.iface 245 (.pointer (some ⟨E 0, O 0, none⟩)))]), (1, .ro 0 [(.iface 245 (.pointer (some ⟨E 1, O 1, none⟩)))]), (2, .ro 0 [(.iface 245 (.pointer (some ⟨E 2, O 2, none⟩)))]), (3, .ro 0 [(.iface 245 (.pointer (some ⟨E 3, O 3, none⟩)))]), (4, .ro 0 [(.iface 245 (.pointer (some ⟨E 4, O 4, none⟩)))]), (5, .ro 0 [(.iface 245 (.pointer (some ⟨E 5, O 5, none⟩)))]), (6, .ro 0 [(.iface 245 (.pointer (some ⟨E 6, O 6, none⟩)))]), (E 0, .mark (B 0)), (E 1, .mark (B 1)), (E 2, .mark (B 2)), (E 3, .mark (B 3)), (E 4, .mark (B 4)), (E 5, .mark (B 5)), (E 6, .mark (B 6))] (.bool true) [.ro 0 [(.iface 245 (.pointer (some ⟨E 0, O 0, none⟩)))], .ro 0 [(.iface 245 (.pointer (some ⟨E 1, O 1, none⟩)))], .ro 0 [(.iface 245 (.pointer (some ⟨E 2, O 2, none⟩)))], .ro 0 [(.iface 245 (.pointer (some ⟨E 3, O 3, none⟩)))], .ro 0 [(.iface 245 (.pointer (some ⟨E 4, O 4, none⟩)))], .ro 0 [(.iface 245 (.pointer (some ⟨E 5, O 5, none⟩)))], .ro 0 [(.iface 245 (.pointer (some ⟨E 6, O 6, none⟩)))], .mark (B 0), .mark (B 1), .mark (B 2), .mark (B 3), .mark (B 4), .mark (B 5), .mark (B 6)] := by
  refine Ctr.by layOk Tryz.func8 Tryz.ntmps8 rfl rfl rfl rfl rfl ?_
  exact wk_ET1_0
set_option maxHeartbeats 4000000 in
theorem see_err0 (E O B : Nat → Nat) (hne : ∀ g h : Nat, isE g = true → isE h = true → g ≠ h → (B g, O g) ≠ (B h, O h)) : Ctr Tryz.prog 7 8 [(.iface 245 (.pointer (some ⟨E 0, O 0, none⟩))), .agg #[I64 (103), .bool false, I64 0]] [(0, .ro 0 [(.iface 245 (.pointer (some ⟨E 0, O 0, none⟩)))]), (1, .ro 0 [(.iface 245 (.pointer (some ⟨E 1, O 1, none⟩)))]), (2, .ro 0 [(.iface 245 (.pointer (some ⟨E 2, O 2, none⟩)))]), (3, .ro 0 [(.iface 245 (.pointer (some ⟨E 3, O 3, none⟩)))]), (4, .ro 0 [(.iface 245 (.pointer (some ⟨E 4, O 4, none⟩)))]), (5, .ro 0 [(.iface 245 (.pointer (some ⟨E 5, O 5, none⟩)))]), (6, .ro 0 [(.iface 245 (.pointer (some ⟨E 6, O 6, none⟩)))]), (E 0, .mark (B 0)), (E 1, .mark (B 1)), (E 2, .mark (B 2)), (E 3, .mark (B 3)), (E 4, .mark (B 4)), (E 5, .mark (B 5)), (E 6, .mark (B 6))] (.bool true) [.ro 0 [(.iface 245 (.pointer (some ⟨E 0, O 0, none⟩)))], .ro 0 [(.iface 245 (.pointer (some ⟨E 1, O 1, none⟩)))], .ro 0 [(.iface 245 (.pointer (some ⟨E 2, O 2, none⟩)))], .ro 0 [(.iface 245 (.pointer (some ⟨E 3, O 3, none⟩)))], .ro 0 [(.iface 245 (.pointer (some ⟨E 4, O 4, none⟩)))], .ro 0 [(.iface 245 (.pointer (some ⟨E 5, O 5, none⟩)))], .ro 0 [(.iface 245 (.pointer (some ⟨E 6, O 6, none⟩)))], .mark (B 0), .mark (B 1), .mark (B 2), .mark (B 3), .mark (B 4), .mark (B 5), .mark (B 6)] := by
  refine Ctr.by layOk Tryz.func8 Tryz.ntmps8 rfl rfl rfl rfl rfl ?_
  exact wk_ET1_0
set_option maxHeartbeats 4000000 in
theorem see_err1 (E O B : Nat → Nat) (hne : ∀ g h : Nat, isE g = true → isE h = true → g ≠ h → (B g, O g) ≠ (B h, O h)) : Ctr Tryz.prog 7 8 [(.iface 245 (.pointer (some ⟨E 1, O 1, none⟩))), .agg #[I64 (102), .bool false, I64 0]] [(0, .ro 0 [(.iface 245 (.pointer (some ⟨E 0, O 0, none⟩)))]), (1, .ro 0 [(.iface 245 (.pointer (some ⟨E 1, O 1, none⟩)))]), (2, .ro 0 [(.iface 245 (.pointer (some ⟨E 2, O 2, none⟩)))]), (3, .ro 0 [(.iface 245 (.pointer (some ⟨E 3, O 3, none⟩)))]), (4, .ro 0 [(.iface 245 (.pointer (some ⟨E 4, O 4, none⟩)))]), (5, .ro 0 [(.iface 245 (.pointer (some ⟨E 5, O 5, none⟩)))]), (6, .ro 0 [(.iface 245 (.pointer (some ⟨E 6, O 6, none⟩)))]), (E 0, .mark (B 0)), (E 1, .mark (B 1)), (E 2, .mark (B 2)), (E 3, .mark (B 3)), (E 4, .mark (B 4)), (E 5, .mark (B 5)), (E 6, .mark (B 6))] (.bool true) [.ro 0 [(.iface 245 (.pointer (some ⟨E 0, O 0, none⟩)))], .ro 0 [(.iface 245 (.pointer (some ⟨E 1, O 1, none⟩)))], .ro 0 [(.iface 245 (.pointer (some ⟨E 2, O 2, none⟩)))], .ro 0 [(.iface 245 (.pointer (some ⟨E 3, O 3, none⟩)))], .ro 0 [(.iface 245 (.pointer (some ⟨E 4, O 4, none⟩)))], .ro 0 [(.iface 245 (.pointer (some ⟨E 5, O 5, none⟩)))], .ro 0 [(.iface 245 (.pointer (some ⟨E 6, O 6, none⟩)))], .mark (B 0), .mark (B 1), .mark (B 2), .mark (B 3), .mark (B 4), .mark (B 5), .mark (B 6)] := by
  refine Ctr.by layOk Tryz.func8 Tryz.ntmps8 rfl rfl rfl rfl rfl ?_
  exact wk_ET1_0
set_option maxHeartbeats 4000000 in
theorem see_at2 (E O B : Nat → Nat) (hne : ∀ g h : Nat, isE g = true → isE h = true → g ≠ h → (B g, O g) ≠ (B h, O h)) (kn : Nat) (p : Int) : Ctr Tryz.prog 7 8 [.iface 138 (pP kn), .agg #[I64 (106), .bool true, I64 (p)]] [(0, .ro 0 [(.iface 245 (.pointer (some ⟨E 0, O 0, none⟩)))]), (1, .ro 0 [(.iface 245 (.pointer (some ⟨E 1, O 1, none⟩)))]), (2, .ro 0 [(.iface 245 (.pointer (some ⟨E 2, O 2, none⟩)))]), (3, .ro 0 [(.iface 245 (.pointer (some ⟨E 3, O 3, none⟩)))]), (4, .ro 0 [(.iface 245 (.pointer (some ⟨E 4, O 4, none⟩)))]), (5, .ro 0 [(.iface 245 (.pointer (some ⟨E 5, O 5, none⟩)))]), (6, .ro 0 [(.iface 245 (.pointer (some ⟨E 6, O 6, none⟩)))]), (E 0, .mark (B 0)), (E 1, .mark (B 1)), (E 2, .mark (B 2)), (E 3, .mark (B 3)), (E 4, .mark (B 4)), (E 5, .mark (B 5)), (E 6, .mark (B 6)), (kn, obet11 p E O)] (.bool true) [.ro 0 [(.iface 245 (.pointer (some ⟨E 0, O 0, none⟩)))], .ro 0 [(.iface 245 (.pointer (some ⟨E 1, O 1, none⟩)))], .ro 0 [(.iface 245 (.pointer (some ⟨E 2, O 2, none⟩)))], .ro 0 [(.iface 245 (.pointer (some ⟨E 3, O 3, none⟩)))], .ro 0 [(.iface 245 (.pointer (some ⟨E 4, O 4, none⟩)))], .ro 0 [(.iface 245 (.pointer (some ⟨E 5, O 5, none⟩)))], .ro 0 [(.iface 245 (.pointer (some ⟨E 6, O 6, none⟩)))], .mark (B 0), .mark (B 1), .mark (B 2), .mark (B 3), .mark (B 4), .mark (B 5), .mark (B 6), obet11 p E O] := by
  refine Ctr.by layOk Tryz.func8 Tryz.ntmps8 rfl rfl rfl rfl rfl ?_
  exact wk_ET1_0
end Go.Proofs.YtekcchmnncefhaaGreatDoor
namespace Go.Proofs.YtekcchmnncefhaaGreatDoor
open Go Go.Proofs.YtekcchmnncefhaaGreatDoorAB
set_option linter.unusedSimpArgs false
set_option linter.unusedVariables false
set_option maxRecDepth 20000
open Go.RowKit Go.Extern.Stop Go.Stop Go.Extern
theorem iTypeOf (v : Value) (w : World) : (Extern.ReflectliteType.typeOf #[.iface 245 v]).run Tryz.prog w = .ok (.iface 214 (.agg #[.pointer (some ⟨7, 245, none⟩)])) w := by kernel_rfl
def compF : Array Value → Sem Value := Extern.ReflectliteType.method fun t => do Extern.Rtype.noPackHeld "Comparable" t; pure (.bool (← typeInfo t).comparable)
theorem iComparable (w : World) : (compF #[.agg #[.pointer (some ⟨7, 245, none⟩)]]).run Tryz.prog w = .ok (.bool true) w := by kernel_rfl
theorem iMethodComparable (v : Value) (w : World) : (Go.method 385 214 v "Comparable").run Tryz.prog w = .ok (153, v) w := by kernel_rfl
theorem iComp : (Tryz.prog.info? 245).map (·.comparable) = some true := by kernel_rfl
theorem iSize : (Tryz.prog.info? 273).map (·.size) = some 1 := by kernel_rfl
theorem noIsE (v : Value) (xT : TypeId) (w : World) : (Instr.typeAssert (.iface 245 v) xT 216 true).run Tryz.prog w = .ok (.tuple #[.nilIface, .bool false]) w := run_typeAssert_lacksB Tryz.underlying216 (by kernel_rfl) (by kernel_rfl) v xT w
theorem noUnwrapE (v : Value) (xT : TypeId) (w : World) : (Instr.typeAssert (.iface 245 v) xT 219 true).run Tryz.prog w = .ok (.tuple #[.nilIface, .bool false]) w := run_typeAssert_lacksB Tryz.underlying219 (by kernel_rfl) (by kernel_rfl) v xT w
theorem noUnwrapsE (v : Value) (xT : TypeId) (w : World) : (Instr.typeAssert (.iface 245 v) xT 221 true).run Tryz.prog w = .ok (.tuple #[.nilIface, .bool false]) w := run_typeAssert_lacksB Tryz.underlying221 (by kernel_rfl) (by kernel_rfl) v xT w
/-- errors.Is(x, x). -/
theorem is_same (a : Addr) (w : World) : Calls Tryz.prog 18 #[.iface 245 (.pointer (some a)), .iface 245 (.pointer (some a))] w fun e w' => e = .returned (.bool true) ∧ w' = w := by
  obtain ⟨i, hi, hcmp⟩ := Option.map_eq_some_iff.1 iComp
  obtain ⟨j, hj, hjs⟩ := Option.map_eq_some_iff.1 iSize
  have h8 := @run_callFunc_extern Tryz.prog 62 _ Extern.ReflectliteType.typeOf Tryz.func62 (by kernel_rfl) (by kernel_rfl) (by kernel_rfl) (by kernel_rfl)
  have h32 := @run_callFunc_extern Tryz.prog 153 _ compF Tryz.func153 (by kernel_rfl) (by kernel_rfl) (by kernel_rfl) (by kernel_rfl)
  have tT := iTypeOf
  have cT := iComparable
  have mR := iMethodComparable
  have heq := run_eql_iface_ptr_same (P := Tryz.prog) w a Tryz.underlying36 Tryz.underlying245 hi hcmp hj
  go_enter Tryz.func18, Tryz.ntmps18
  go_wp2
  refine wp_loop_rounds 1 ?_
  rw [rounds_succ]
  go_wp2
  go_ret
  exact ⟨rfl, rfl⟩
/-- errors.Is(x, y), two different ones. -/
theorem is_other (a b : Addr) (ca cb : Array Value) (ta tb : TypeId) (w : World) (hne : a ≠ b) (ha : w.heap[a.block]? = some (.cells ca ta (0, 0))) (hb : w.heap[b.block]? = some (.cells cb tb (0, 0))) :
    Calls Tryz.prog 18 #[.iface 245 (.pointer (some a)), .iface 245 (.pointer (some b))] w fun e w' => e = .returned (.bool false) ∧ w' = w := by
  obtain ⟨i, hi, hcmp⟩ := Option.map_eq_some_iff.1 iComp
  obtain ⟨j, hj, hjs⟩ := Option.map_eq_some_iff.1 iSize
  have h8 := @run_callFunc_extern Tryz.prog 62 _ Extern.ReflectliteType.typeOf Tryz.func62 (by kernel_rfl) (by kernel_rfl) (by kernel_rfl) (by kernel_rfl)
  have h32 := @run_callFunc_extern Tryz.prog 153 _ compF Tryz.func153 (by kernel_rfl) (by kernel_rfl) (by kernel_rfl) (by kernel_rfl)
  have tT := iTypeOf
  have cT := iComparable
  have mR := iMethodComparable
  have nE := noIsE
  have uE := noUnwrapE
  have vE := noUnwrapsE
  have heq := run_eql_iface_ptr_other (P := Tryz.prog) w Tryz.underlying36 Tryz.underlying245 hi hcmp hj (by rw [hjs]; decide) hne ha hb
  go_enter Tryz.func18, Tryz.ntmps18
  go_wp2
  refine wp_loop_rounds 1 ?_
  rw [rounds_succ]
  go_wp2
  go_ret
  exact ⟨rfl, rfl⟩
theorem fIs_ent : ∃ fn, Tryz.prog.funcs[18]? = some fn ∧ (fn.name == "runtime.NumGoroutine") = false ∧ fn.body.isSome = true := ⟨_, Tryz.func18, by kernel_rfl, rfl⟩
theorem errIs_same (E O : Nat → Nat) (g : Nat) : Ctr Tryz.prog 7 18 [errG E O g, errG E O g] [] (.bool true) [] := by
  refine ⟨fIs_ent, rfl, fun R ρ w cargs sim hv fr => ?_⟩
  obtain ⟨cl⟩ := cargs
  obtain ⟨x', l1, h1, h2, rfl⟩ := vrl_cons.1 hv
  obtain ⟨y', l2, h3, h4, rfl⟩ := vrl_cons.1 h2
  cases h4
  obtain ⟨x'', hx'', rfl⟩ := vr_iface.1 h1
  obtain ⟨y'', hy'', rfl⟩ := vr_iface.1 h3
  obtain ⟨c, hc, rfl⟩ := vr_ptr.1 hx''
  obtain ⟨c2, hc2, rfl⟩ := vr_ptr.1 hy''
  rw [hc] at hc2; cases hc2
  exact (is_same ⟨c, O g, none⟩ w).mono (by rintro e w' ⟨rfl, rfl⟩; exact ⟨.bool true, ρ, rfl, .bool _, sim, Stp.refl ρ _ _, fun k hk => (fr k hk).1⟩)
theorem errIs_ne (E O B : Nat → Nat) (g h : Nat) (hne : (B g, O g) ≠ (B h, O h)) : Ctr Tryz.prog 7 18 [errG E O g, errG E O h] [(E g, .mark (B g)), (E h, .mark (B h))] (.bool false) [.mark (B g), .mark (B h)] := by
  refine ⟨fIs_ent, rfl, fun R ρ w cargs sim hv fr => ?_⟩
  obtain ⟨cl⟩ := cargs
  obtain ⟨x', l1, h1, h2, rfl⟩ := vrl_cons.1 hv
  obtain ⟨y', l2, h3, h4, rfl⟩ := vrl_cons.1 h2
  cases h4
  obtain ⟨x'', hx'', rfl⟩ := vr_iface.1 h1
  obtain ⟨y'', hy'', rfl⟩ := vr_iface.1 h3
  obtain ⟨c, hc, rfl⟩ := vr_ptr.1 hx''
  obtain ⟨c2, hc2, rfl⟩ := vr_ptr.1 hy''
  obtain ⟨d1, o1, e1, e2, m1, ca, ta, rfl⟩ := (sim.ent (E g, .mark (B g)) (by simp)).2 rfl
  obtain ⟨d2, o2, e3, e4, m2, cb, tb, rfl⟩ := (sim.ent (E h, .mark (B h)) (by simp)).2 rfl
  have e1 : ρ (E g) = some d1 := e1
  have e3 : ρ (E h) = some d2 := e3
  have m1 : ρ (E g) = some (B g) := m1
  have m2 : ρ (E h) = some (B h) := m2
  rw [hc] at e1 m1; cases e1; cases m1
  rw [hc2] at e3 m2; cases e3; cases m2
  have hbb : (⟨B g, O g, none⟩ : Addr) ≠ ⟨B h, O h, none⟩ := fun e => hne (by injection e with e1 e2 e3; rw [e1, e2])
  exact (is_other ⟨B g, O g, none⟩ ⟨B h, O h, none⟩ _ _ _ _ w hbb e2 e4).mono (by rintro e w' ⟨rfl, rfl⟩; exact ⟨.bool false, ρ, rfl, .bool _, sim, Stp.refl ρ _ _, fun k hk => (fr k hk).1⟩)

set_option maxHeartbeats 4000000 in
theorem errIs_nil (E O : Nat → Nat) (g : Nat) : Ctr Tryz.prog 7 18 [.nilIface, (errG E O g)] [] (.bool false) [] := by
  refine Ctr.by layOk Tryz.func18 Tryz.ntmps18 rfl rfl rfl rfl rfl ?_
  repeat' (first
    | ((with_reducible apply gQ0); (first | (apply q_move; apply Eq.refl) | (apply q_assign; apply Eq.refl) | (apply q_pick_t; apply Eq.refl; apply Eq.refl) | (apply q_nileq; (focus (kernel_rfl)); apply Eq.refl) | (apply q_ifL; (focus (kernel_rfl)); apply Eq.refl; apply Eq.refl)))
    | ((with_reducible apply gR); (first | refine RK.peelN rfl ?_ | refine RK.donef rfl ⟨_, rfl, ?_⟩))
    | ((with_reducible apply gQv); focus exact wf_)
    | ((with_reducible apply gK); (fail_if_success ((apply gM); (iterate 3 apply Eq.refl))); ((apply RKo.gsplit; (iterate 4 apply Eq.refl)) <;> (intro hc; (first | with_reducible exact ff hc | skip))))
    | ((with_reducible apply gW); (first | with_reducible apply WP.seq | refine WP.reg mixed (fun ks => _) (fun ks => rfl) (fun ks => ?_) | ((apply WP.condA; apply Eq.refl) <;> (intro hc; (first | with_reducible exact ff hc | skip))) | apply WP.ret))
    | (first | with_reducible apply thn_n | with_reducible apply thn_r)
    | (refine Endz.mk' en_ rv_ (by rfl) sb_))
end Go.Proofs.YtekcchmnncefhaaGreatDoor
namespace Go.Proofs.YtekcchmnncefhaaGreatDoor
open Go Go.Proofs.YtekcchmnncefhaaGreatDoorAB
set_option linter.unusedSimpArgs false
set_option linter.unusedVariables false
set_option maxRecDepth 20000
theorem wk_P1_0 {p : Prop} (h : p := by
  repeat' (first
    | ((with_reducible apply gQ0); (first | (apply q_box (ty := 225) (k := k); apply Eq.refl; exact lk_; apply Eq.refl) | (apply q_box (ty := 164) (k := k); apply Eq.refl; exact lk_; apply Eq.refl) | (apply q_move; apply Eq.refl) | (apply q_assign; apply Eq.refl) | (apply q_nilCheck; apply Eq.refl) | (apply q_fa layOk; (iterate 5 apply Eq.refl)) | (apply q_load layOk; (iterate 3 apply Eq.refl); exact lk_; apply Eq.refl) | (apply q_build layOk; (iterate 4 apply Eq.refl)) | (apply q_min; apply Eq.refl) | (apply q_max; apply Eq.refl) | (apply isF (f := 66); (refine q_call0 rfl (contact_cut _) ?_)) | (apply e_store layOk; (iterate 3 apply Eq.refl); exact lk_; (iterate 5 apply Eq.refl))))
    | ((with_reducible apply gR); (first | refine RK.peelN rfl ?_ | refine RK.donef rfl ⟨_, rfl, ?_⟩ | refine RK.donet rfl (by kernel_rfl) ⟨_, rfl, ?_⟩))
    | ((with_reducible apply gW); (first | with_reducible apply WP.seq | refine WP.reg mixed (fun ks => _) (fun ks => rfl) (fun ks => ?_) | apply WP.ret))
    | (with_reducible apply thn_n)
    | (refine Endz.mk' en_ rv_ (by rfl) sb_))) : p := h
def cutN (n : Int) : Int := mx (mn n 1000) 1
def cutR (n : Int) : Int := mn (mx n 1) 1000
set_option maxHeartbeats 4000000 in
theorem filter_New (k : Nat) (n : Int) : Ctr Tryz.prog 7 65 [I64 n] [(k, .gone)] (pP k) [.cells [I64 (cutN n), I64 0, .bool false] 225] := by
  refine Ctr.by layOk Tryz.func65 Tryz.ntmps65 rfl rfl rfl rfl rfl ?_
  exact wk_P1_0
set_option maxHeartbeats 4000000 in
theorem filter_State (k : Nat) (n c : Int) (b : Bool) : Ctr Tryz.prog 7 107 [pP k] [(k, .cells [I64 n, I64 c, .bool b] 225)] (.bool b) [.cells [I64 n, I64 c, .bool b] 225] := by
  refine Ctr.by layOk Tryz.func107 Tryz.ntmps107 rfl rfl rfl rfl rfl ?_
  exact wk_P1_0
set_option maxHeartbeats 4000000 in
theorem filter_Force (k : Nat) (n c : Int) (b b2 : Bool) : Ctr Tryz.prog 7 67 [pP k, .bool b2] [(k, .cells [I64 n, I64 c, .bool b] 225)] (.tuple #[]) [.cells [I64 n, I64 0, .bool b2] 225] := by
  refine Ctr.by layOk Tryz.func67 Tryz.ntmps67 rfl rfl rfl rfl rfl ?_
  exact wk_P1_0
set_option maxHeartbeats 4000000 in
theorem contact_cut (n : Int) : Ctr Tryz.prog 7 66 [I64 n] [] (I64 (cutN n)) [] := by
  refine Ctr.by layOk Tryz.func66 Tryz.ntmps66 rfl rfl rfl rfl rfl ?_
  exact wk_P1_0
set_option maxHeartbeats 4000000 in
theorem contact_New (k : Nat) (d b : Int) : Ctr Tryz.prog 7 26 [I64 d, I64 b] [(k, .gone)] (pP k) [.cells [I64 (cutN d), I64 (cutN b), .bool false, I64 (-2), I64 (0), I64 (0), .bool false, .bool false, .bool false] 164] := by
  refine Ctr.by layOk Tryz.func26 Tryz.ntmps26 rfl rfl rfl rfl rfl ?_
  exact wk_P1_0
set_option maxHeartbeats 4000000 in
theorem contact_Jam (k : Nat) (d b : Int) (p q : Bool) : Ctr Tryz.prog 7 84 [pP k] [(k, .cells [I64 (d), I64 (b), .bool false, I64 (-2), I64 (0), I64 (0), .bool false, .bool p, .bool q] 164)] (.tuple #[.bool p, .bool q]) [.cells [I64 (d), I64 (b), .bool false, I64 (-2), I64 (0), I64 (0), .bool false, .bool p, .bool q] 164] := by
  refine Ctr.by layOk Tryz.func84 Tryz.ntmps84 rfl rfl rfl rfl rfl ?_
  exact wk_P1_0
end Go.Proofs.YtekcchmnncefhaaGreatDoor
namespace Go.Proofs.YtekcchmnncefhaaGreatDoor
open Go Go.Proofs.YtekcchmnncefhaaGreatDoorAB
set_option linter.unusedSimpArgs false
set_option linter.unusedVariables false
set_option maxRecDepth 20000
abbrev obp20 (x0 : Cfg) := (.cells [I64 (cutN x0.B), I64 (0), .bool false] 225 : AObj)
abbrev obp21 (x0 : _) (x1 : Nat) (x2 : Nat) (x3 : Nat) := (.cells [I64 (x0), pP x1, pP x2, pP x3] 155 : AObj)
abbrev obp22 (x0 : _) (x1 : _) (x2 : _) := (.cells [I64 (x0), I64 (x1), .bool x2] 225 : AObj)
theorem wk_P2_0 {p : Prop} (h : p := by
  repeat' (first
    | (with_reducible refine loopW_s ?_)
    | ((first | (with_reducible apply gQ0) | ((with_reducible apply gQ1); exact wt_)); (first | (apply q_idxPN (m := 0) layOk; (iterate 4 apply Eq.refl); (focus (decide)); (focus (decide))) | (apply q_idxPN (m := 1) layOk; (iterate 4 apply Eq.refl); (focus (decide)); (focus (decide))) | (apply q_idxPN (m := 2) layOk; (iterate 4 apply Eq.refl); (focus (decide)); (focus (decide))) | (apply q_box (ty := 155) (k := kb); apply Eq.refl; exact lk_; apply Eq.refl) | (apply q_indexc layOk; (iterate 6 apply Eq.refl); (focus (decide)); (focus (decide)); apply Eq.refl) | (apply q_box (ty := 167) (k := kb); apply Eq.refl; exact lk_; apply Eq.refl) | (apply q_box (k := ks _); apply Eq.refl; exact lk_; apply Eq.refl) | (apply q_alloc (k := ks _) layOk; apply Eq.refl; exact lk_; apply Eq.refl) | (apply q_move; apply Eq.refl) | (apply q_assign; apply Eq.refl) | (apply q_int; (iterate 3 apply Eq.refl)) | (apply q_nilCheck; apply Eq.refl) | (apply q_fa layOk; (iterate 5 apply Eq.refl)) | (apply q_load layOk; (iterate 3 apply Eq.refl); exact lk_; apply Eq.refl) | (apply q_loadr layOk; (iterate 3 apply Eq.refl); exact lk_; apply Eq.refl) | (apply q_build layOk; (iterate 4 apply Eq.refl)) | (apply q_pick_t; apply Eq.refl; apply Eq.refl) | (apply q_pick_f; apply Eq.refl; apply Eq.refl) | (apply isF (f := 65); (refine q_call1 rfl (filter_New f0 _) lc_ rfl ?_)) | (apply isF (f := 65); (refine q_call1 rfl (filter_New f1 _) lc_ rfl ?_)) | (apply isF (f := 65); (refine q_call1 rfl (filter_New f2 _) lc_ rfl ?_)) | (apply isF (f := 107); (refine q_callR rfl (filter_State f0 _ _ _) rfl fd_ (by decide) ?_)) | (apply isF (f := 107); (refine q_callR rfl (filter_State f1 _ _ _) rfl fd_ (by decide) ?_)) | (apply isF (f := 107); (refine q_callR rfl (filter_State f2 _ _ _) rfl fd_ (by decide) ?_)) | (apply isF (f := 67); (refine q_call1 rfl (filter_Force f0 _ _ _ _) lc_ rfl ?_)) | (apply isF (f := 67); (refine q_call1 rfl (filter_Force f1 _ _ _ _) lc_ rfl ?_)) | (apply isF (f := 67); (refine q_call1 rfl (filter_Force f2 _ _ _ _) lc_ rfl ?_)) | (apply e_store layOk; (iterate 3 apply Eq.refl); exact lk_; (iterate 5 apply Eq.refl))))
    | ((with_reducible apply gR); (first | refine RK.peelN rfl ?_ | refine RK.donef rfl ⟨_, rfl, ?_⟩ | refine RK.donet rfl (by kernel_rfl) ⟨_, rfl, ?_⟩))
    | ((with_reducible apply gQv); focus exact wf_)
    | ((with_reducible apply gK); (fail_if_success ((apply gM); (iterate 3 apply Eq.refl))); ((first | (apply gsD; (iterate 4 apply Eq.refl)) | (apply RKo.gsplit; (iterate 4 apply Eq.refl))) <;> (intro hc; (first | with_reducible exact ff hc | with_reducible exact ff' hc | exact absurd hc (by decide) | skip))))
    | ((with_reducible apply gW); (first | refine WP.unroll 4 ?_ | with_reducible apply WP.seq | refine WP.reg mixed (fun ks => _) (fun ks => rfl) (fun ks => ?_) | ((apply cdD; apply Eq.refl) <;> (intro hc; (first | with_reducible exact ff hc | with_reducible exact ff' hc | exact absurd hc (by decide) | skip))) | apply WP.ret | apply WP.skip | apply WP.exit | apply WP.block))
    | (first | with_reducible apply thn_n | with_reducible apply thn_e | with_reducible apply blk_n | with_reducible apply blk_e)
    | (refine Endz.mk' en_ rv_ (by rfl) sb_))) : p := h

set_option maxHeartbeats 4000000 in
theorem contact_Set (k : Nat) (d b s w v : Int) (t fr x y p q : Bool) : Ctr Tryz.prog 7 27 [pP k, .bool p, .bool q] [(k, .cells [I64 (d), I64 (b), .bool t, I64 (s), I64 (w), I64 (v), .bool fr, .bool x, .bool y] 164)] (.tuple #[]) [.cells [I64 (d), I64 (b), .bool t, I64 (s), I64 (w), I64 (v), .bool fr, .bool (x || p), .bool (y || q)] 164] := by
  cases x <;> cases y
  all_goals
    refine Ctr.by layOk Tryz.func27 Tryz.ntmps27 rfl rfl rfl rfl rfl ?_
    exact wk_P2_0

set_option maxHeartbeats 4000000 in
theorem locate_New (kb f0 f1 f2 : Nat) (c : Cfg) : Ctr Tryz.prog 7 23 [.agg ⟨c.cells⟩] [(kb, .gone), (f0, .gone), (f1, .gone), (f2, .gone)] (pP kb) [.cells [I64 (c.Trip), pP f0, pP f1, pP f2] 155, obp20 c, obp20 c, obp20 c] := by
  refine Ctr.by layOk Tryz.func23 Tryz.ntmps23 rfl rfl rfl rfl rfl ?_
  exact wk_P2_0

set_option maxHeartbeats 4000000 in
theorem locate_Locked (kb f0 f1 f2 : Nat) (tr n0 c0 n1 c1 n2 c2 : Int) (b0 b1 b2 : Bool) : Ctr Tryz.prog 7 85 [pP kb] [(kb, obp21 tr f0 f1 f2), (f0, obp22 n0 c0 b0), (f1, obp22 n1 c1 b1), (f2, obp22 n2 c2 b2)] (.agg #[.bool b0, .bool b1, .bool b2]) [obp21 tr f0 f1 f2, obp22 n0 c0 b0, obp22 n1 c1 b1, obp22 n2 c2 b2] := by
  refine Ctr.by layOk Tryz.func85 Tryz.ntmps85 rfl rfl rfl rfl rfl ?_
  exact wk_P2_0

set_option maxHeartbeats 4000000 in
theorem locate_Lock0 (kb f0 f1 f2 : Nat) (tr n0 c0 n1 c1 n2 c2 : Int) (b0 b1 b2 : Bool) : Ctr Tryz.prog 7 28 [pP kb, I64 4] [(kb, obp21 tr f0 f1 f2), (f0, obp22 n0 c0 b0), (f1, obp22 n1 c1 b1), (f2, obp22 n2 c2 b2)] (.bool true) [obp21 tr f0 f1 f2, .cells [I64 (n0), I64 (0), .bool true] 225, obp22 n1 c1 b1, obp22 n2 c2 b2] := by
  refine Ctr.by layOk Tryz.func28 Tryz.ntmps28 rfl rfl rfl rfl rfl ?_
  exact wk_P2_0

set_option maxHeartbeats 4000000 in
theorem locate_Lock1 (kb f0 f1 f2 : Nat) (tr n0 c0 n1 c1 n2 c2 : Int) (b0 b1 b2 : Bool) : Ctr Tryz.prog 7 28 [pP kb, I64 5] [(kb, obp21 tr f0 f1 f2), (f0, obp22 n0 c0 b0), (f1, obp22 n1 c1 b1), (f2, obp22 n2 c2 b2)] (.bool true) [obp21 tr f0 f1 f2, obp22 n0 c0 b0, .cells [I64 (n1), I64 (0), .bool true] 225, obp22 n2 c2 b2] := by
  refine Ctr.by layOk Tryz.func28 Tryz.ntmps28 rfl rfl rfl rfl rfl ?_
  exact wk_P2_0

set_option maxHeartbeats 4000000 in
theorem locate_Lock2 (kb f0 f1 f2 : Nat) (tr n0 c0 n1 c1 n2 c2 : Int) (b0 b1 b2 : Bool) : Ctr Tryz.prog 7 28 [pP kb, I64 6] [(kb, obp21 tr f0 f1 f2), (f0, obp22 n0 c0 b0), (f1, obp22 n1 c1 b1), (f2, obp22 n2 c2 b2)] (.bool true) [obp21 tr f0 f1 f2, obp22 n0 c0 b0, obp22 n1 c1 b1, .cells [I64 (n2), I64 (0), .bool true] 225] := by
  refine Ctr.by layOk Tryz.func28 Tryz.ntmps28 rfl rfl rfl rfl rfl ?_
  exact wk_P2_0

set_option maxHeartbeats 4000000 in
theorem health_New (kb f0 f1 f2 : Nat) (c : Cfg) : Ctr Tryz.prog 7 29 [.agg ⟨c.cells⟩] [(kb, .gone), (f0, .gone), (f1, .gone), (f2, .gone)] (pP kb) [.cells (c.cells ++ [pP f0, pP f1, pP f2, .bool false, .bool false]) 167, obp20 c, obp20 c, obp20 c] := by
  refine Ctr.by layOk Tryz.func29 Tryz.ntmps29 rfl rfl rfl rfl rfl ?_
  exact wk_P2_0

set_option maxHeartbeats 4000000 in
theorem health_Fail (kb f0 f1 f2 : Nat) (c : Cfg) (fl may : Bool) : Ctr Tryz.prog 7 30 [pP kb] [(kb, .cells (c.cells ++ [pP f0, pP f1, pP f2, .bool fl, .bool may]) 167)] (.tuple #[]) [.cells (c.cells ++ [pP f0, pP f1, pP f2, .bool true, .bool may]) 167] := by
  refine Ctr.by layOk Tryz.func30 Tryz.ntmps30 rfl rfl rfl rfl rfl ?_
  exact wk_P2_0

set_option maxHeartbeats 4000000 in
theorem health_Failed (kb f0 f1 f2 : Nat) (c : Cfg) (fl may : Bool) : Ctr Tryz.prog 7 86 [pP kb] [(kb, .cells (c.cells ++ [pP f0, pP f1, pP f2, .bool fl, .bool may]) 167)] (.bool fl) [.cells (c.cells ++ [pP f0, pP f1, pP f2, .bool fl, .bool may]) 167] := by
  refine Ctr.by layOk Tryz.func86 Tryz.ntmps86 rfl rfl rfl rfl rfl ?_
  exact wk_P2_0
end Go.Proofs.YtekcchmnncefhaaGreatDoor
namespace Go.Proofs.YtekcchmnncefhaaGreatDoor
open Go Go.Proofs.YtekcchmnncefhaaGreatDoorAB
variable {G : Nat}
set_option linter.unusedSimpArgs false
set_option linter.unusedVariables false
set_option maxRecDepth 20000
set_option maxHeartbeats 4000000 in
theorem wk_D1_0 {p : Prop} (h : p := by
  repeat' (first
    | ((with_reducible apply gQ0); (first | (apply q_move; apply Eq.refl) | (apply q_assign; apply Eq.refl) | (apply q_fa layOk; (iterate 5 apply Eq.refl)) | (apply q_load layOk; (iterate 3 apply Eq.refl); exact lk_; apply Eq.refl) | (apply q_build layOk; (iterate 4 apply Eq.refl)) | (apply q_min; apply Eq.refl) | (apply q_max; apply Eq.refl) | (apply q_box (k := ks _); apply Eq.refl; exact lk_; apply Eq.refl) | (apply q_alloc (k := ks _) layOk; apply Eq.refl; exact lk_; apply Eq.refl) | (apply isF (f := 64); (refine q_call0 rfl (fixed_Clamp _ _ _) ?_)) | (apply e_store layOk; (iterate 3 apply Eq.refl); exact lk_; (iterate 5 apply Eq.refl))))
    | ((with_reducible apply gR); (first | refine RK.peelN rfl ?_ | refine RK.donef rfl ⟨_, rfl, ?_⟩ | refine RK.donet rfl (by kernel_rfl) ⟨_, rfl, ?_⟩))
    | ((with_reducible apply gW); (first | with_reducible apply WP.seq | refine WP.reg mixed (fun ks => _) (fun ks => rfl) (fun ks => ?_) | apply WP.ret))
    | (with_reducible apply thn_n)
    | (refine Endz.mk' en_ rv_ (by rfl) sb_))) : p := h
theorem fixed_Clamp (x lo hi : Int) : Ctr Tryz.prog G 64 [I64 (x), I64 (lo), I64 (hi)] [] (I64 (mx (mn x hi) lo)) [] := by
  refine Ctr.by layOk Tryz.func64 Tryz.ntmps64 rfl rfl rfl rfl rfl ?_
  exact wk_D1_0
set_option maxHeartbeats 4000000 in
theorem span_Of (a b : Int) : Ctr Tryz.prog G 68 [I64 (a), I64 (b)] [] (.agg #[I64 (mn a b), I64 (mx a b)]) [] := by
  refine Ctr.by layOk Tryz.func68 Tryz.ntmps68 rfl rfl rfl rfl rfl ?_
  exact wk_D1_0
set_option maxHeartbeats 4000000 in
theorem span_Clamp (a b lo hi : Int) : Ctr Tryz.prog G 117 [.agg #[I64 (a), I64 (b)], I64 (lo), I64 (hi)] [] (.agg #[I64 (mx (mn a hi) lo), I64 (mx (mn b hi) lo)]) [] := by
  refine Ctr.by layOk Tryz.func117 Tryz.ntmps117 rfl rfl rfl rfl rfl ?_
  exact wk_D1_0
end Go.Proofs.YtekcchmnncefhaaGreatDoor
namespace Go.Proofs.YtekcchmnncefhaaGreatDoor
open Go Go.Proofs.YtekcchmnncefhaaGreatDoorAB
variable {G : Nat}
set_option linter.unusedSimpArgs false
set_option linter.unusedVariables false
set_option maxRecDepth 20000
set_option maxHeartbeats 4000000 in
theorem wk_D4_0 {p : Prop} (h : p := by
  repeat' (first
    | ((with_reducible apply gQ0); (first | (apply q_move; apply Eq.refl) | (apply q_nilCheck; apply Eq.refl) | (apply q_fa layOk; (iterate 5 apply Eq.refl)) | (apply q_load layOk; (iterate 3 apply Eq.refl); exact lk_; apply Eq.refl) | (apply q_loadr layOk; (iterate 3 apply Eq.refl); exact lk_; apply Eq.refl) | (apply q_box (k := ks _); apply Eq.refl; exact lk_; apply Eq.refl) | (apply q_alloc (k := ks _) layOk; apply Eq.refl; exact lk_; apply Eq.refl) | (apply isF (f := 117); (refine q_call0 rfl (span_Clamp _ _ _ _) ?_)) | (apply e_store layOk; (iterate 3 apply Eq.refl); exact lk_; (iterate 5 apply Eq.refl))))
    | ((with_reducible apply gR); (first | refine RK.peelN rfl ?_ | refine RK.donef rfl ⟨_, rfl, ?_⟩ | refine RK.donet rfl (by kernel_rfl) ⟨_, rfl, ?_⟩))
    | ((with_reducible apply gW); (first | with_reducible apply WP.seq | refine WP.reg mixed (fun ks => _) (fun ks => rfl) (fun ks => ?_) | apply WP.ret))
    | (with_reducible apply thn_n)
    | (refine Endz.mk' en_ rv_ (by rfl) sb_))) : p := h
theorem Counter_Set (p : Nat) (c : Cfg) (lo hi a b : Int) : Ctr Tryz.prog G 102 [pP p, .agg #[.int .i64 a, .int .i64 b]] [(p, .cells (c.cells ++ [.int .i64 lo, .int .i64 hi]) 227)] (.tuple #[]) [.cells (c.cells ++ [.int .i64 (mx (mn a c.Cap) 0), .int .i64 (mx (mn b c.Cap) 0)]) 227] := by
  refine Ctr.by layOk Tryz.func102 Tryz.ntmps102 rfl rfl rfl rfl rfl ?_
  exact wk_D4_0
set_option maxHeartbeats 4000000 in
theorem Counter_Q (p : Nat) (c : Cfg) (lo hi : Int) : Ctr Tryz.prog G 70 [pP p] [(p, .cells (c.cells ++ [.int .i64 lo, .int .i64 hi]) 227)] (.agg #[.int .i64 lo, .int .i64 hi]) [.cells (c.cells ++ [.int .i64 lo, .int .i64 hi]) 227] := by
  refine Ctr.by layOk Tryz.func70 Tryz.ntmps70 rfl rfl rfl rfl rfl ?_
  exact wk_D4_0
end Go.Proofs.YtekcchmnncefhaaGreatDoor
namespace Go.Proofs.YtekcchmnncefhaaGreatDoor
open Go Go.Proofs.YtekcchmnncefhaaGreatDoorAB
variable {G : Nat}
set_option linter.unusedSimpArgs false
set_option linter.unusedVariables false
set_option maxRecDepth 20000
def w64 (n : Int) : Int := IntKind.i64.wrap n
def fAdd (a b : Int) : Int := if b > 0 ∧ a > IntKind.i64.wrap (9223372036854775807 - b) then 9223372036854775807 else if b < 0 ∧ a < IntKind.i64.wrap (-9223372036854775808 - b) then -9223372036854775808 else IntKind.i64.wrap (a + b)
def fSub (a b : Int) : Int := if b < 0 ∧ a > IntKind.i64.wrap (9223372036854775807 + b) then 9223372036854775807 else if b > 0 ∧ a < IntKind.i64.wrap (-9223372036854775808 + b) then -9223372036854775808 else IntKind.i64.wrap (a - b)
def rClamp (x lo hi : Int) : Int := if (if x > hi then hi else x) < lo then lo else if x > hi then hi else x
def num (n b : Int) : Int := if n.tmod b < 0 then IntKind.i64.wrap (n.tmod b + b) else n.tmod b
set_option maxHeartbeats 4000000 in
theorem fixed_Add (a b : Int) : Ctr Tryz.prog G 72 [.int .i64 (a), .int .i64 (b)] [] (.int .i64 (fAdd a b)) [] := by
  refine Ctr.by layOk Tryz.func72 Tryz.ntmps72 rfl rfl rfl rfl rfl ?_
  repeat' (first
    | ((first | (with_reducible apply gQ0) | ((with_reducible apply gQ1); exact wt_)); (first | (apply q_move; apply Eq.refl) | (apply q_assign; apply Eq.refl) | (apply q_int; (iterate 3 apply Eq.refl)) | (apply q_pick_t; apply Eq.refl; apply Eq.refl) | (apply q_pick_f; apply Eq.refl; apply Eq.refl)))
    | ((with_reducible apply gR); (first | refine RK.peelN rfl ?_ | refine RK.donef rfl ⟨_, rfl, ?_⟩))
    | ((with_reducible apply gQv); focus exact wf_)
    | ((with_reducible apply gK); (fail_if_success ((apply gM); (iterate 3 apply Eq.refl))); ((apply gsD; (iterate 4 apply Eq.refl)) <;> (intro hc; (first | with_reducible exact ff' hc | skip))))
    | ((with_reducible apply gW); (first | with_reducible apply WP.seq | refine WP.reg mixed (fun ks => _) (fun ks => rfl) (fun ks => ?_) | ((first | (apply cdD; apply Eq.refl) | (apply WP.condA; apply Eq.refl)) <;> (intro hc; (first | with_reducible exact ff' hc | skip))) | apply WP.ret | apply WP.skip | apply WP.block))
    | (first | with_reducible apply thn_n | with_reducible apply thn_r | with_reducible apply blk_n | with_reducible apply blk_r)
    | (refine Endz.mk' en_ rv_ (by first | rfl | (simp [tup, fAdd, *]; done) | (simp_all [tup, fAdd]; done)) sb_))
set_option maxHeartbeats 4000000 in
theorem fixed_Sub (a b : Int) : Ctr Tryz.prog G 71 [.int .i64 (a), .int .i64 (b)] [] (.int .i64 (fSub a b)) [] := by
  refine Ctr.by layOk Tryz.func71 Tryz.ntmps71 rfl rfl rfl rfl rfl ?_
  repeat' (first
    | ((first | (with_reducible apply gQ0) | ((with_reducible apply gQ1); exact wt_)); (first | (apply q_move; apply Eq.refl) | (apply q_assign; apply Eq.refl) | (apply q_int; (iterate 3 apply Eq.refl)) | (apply q_pick_t; apply Eq.refl; apply Eq.refl) | (apply q_pick_f; apply Eq.refl; apply Eq.refl)))
    | ((with_reducible apply gR); (first | refine RK.peelN rfl ?_ | refine RK.donef rfl ⟨_, rfl, ?_⟩))
    | ((with_reducible apply gQv); focus exact wf_)
    | ((with_reducible apply gK); (fail_if_success ((apply gM); (iterate 3 apply Eq.refl))); ((apply gsD; (iterate 4 apply Eq.refl)) <;> (intro hc; (first | with_reducible exact ff' hc | skip))))
    | ((with_reducible apply gW); (first | with_reducible apply WP.seq | refine WP.reg mixed (fun ks => _) (fun ks => rfl) (fun ks => ?_) | ((first | (apply cdD; apply Eq.refl) | (apply WP.condA; apply Eq.refl)) <;> (intro hc; (first | with_reducible exact ff' hc | skip))) | apply WP.ret | apply WP.skip | apply WP.block))
    | (first | with_reducible apply thn_n | with_reducible apply thn_r | with_reducible apply blk_n | with_reducible apply blk_r)
    | (refine Endz.mk' en_ rv_ (by first | rfl | (simp [tup, fSub, *]; done) | (simp_all [tup, fSub]; done)) sb_))
set_option maxHeartbeats 4000000 in
theorem ref_Clamp (x lo hi : Int) : Ctr Tryz.prog G 104 [.int .i64 (x), .int .i64 (lo), .int .i64 (hi)] [] (.int .i64 (rClamp x lo hi)) [] := by
  refine Ctr.by layOk Tryz.func104 Tryz.ntmps104 rfl rfl rfl rfl rfl ?_
  repeat' (first
    | ((with_reducible apply gQ0); (first | (apply q_move; apply Eq.refl) | (apply q_assign; apply Eq.refl) | (apply q_int; (iterate 3 apply Eq.refl))))
    | ((with_reducible apply gR); (first | refine RK.peelN rfl ?_ | refine RK.donef rfl ⟨_, rfl, ?_⟩))
    | ((with_reducible apply gW); (first | with_reducible apply WP.seq | refine WP.reg mixed (fun ks => _) (fun ks => rfl) (fun ks => ?_) | ((apply cdD; apply Eq.refl) <;> intro hc) | apply WP.ret | apply WP.skip))
    | (with_reducible apply thn_n)
    | (refine Endz.mk' en_ rv_ (by first | rfl | (simp [tup, rClamp, *]; done) | (simp_all [tup, rClamp]; done)) sb_))
set_option maxHeartbeats 4000000 in
theorem world_Number (n b : Int) (hb : b ≠ 0) : Ctr Tryz.prog G 15 [.int .i64 (n), .int .i64 (b)] [] (.int .i64 (num n b)) [] := by
  refine Ctr.by layOk Tryz.func15 Tryz.ntmps15 rfl rfl rfl rfl rfl ?_
  repeat' (first
    | ((with_reducible apply gQ0); (first | (apply q_move; apply Eq.refl) | (apply q_assign; apply Eq.refl) | (apply q_int; (iterate 3 apply Eq.refl)) | (apply q_rem; apply Eq.refl; apply Eq.refl; exact hb)))
    | ((with_reducible apply gR); (first | refine RK.peelN rfl ?_ | refine RK.donef rfl ⟨_, rfl, ?_⟩))
    | ((with_reducible apply gW); (first | with_reducible apply WP.seq | refine WP.reg mixed (fun ks => _) (fun ks => rfl) (fun ks => ?_) | ((apply cdD; apply Eq.refl) <;> intro hc) | apply WP.ret | apply WP.skip))
    | (with_reducible apply thn_n)
    | (refine Endz.mk' en_ rv_ (by first | rfl | (simp [tup, num, *]; done) | (simp_all [tup, num]; done)) sb_))
end Go.Proofs.YtekcchmnncefhaaGreatDoor
