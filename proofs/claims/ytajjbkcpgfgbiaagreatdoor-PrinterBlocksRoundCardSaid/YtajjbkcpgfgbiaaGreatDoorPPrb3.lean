/- Texts that the proofs of PrinterBlocksRound need. No condition. (Part 3 of 7.) -/
import Derived.Test.YtajjbkcpgfgbiaaGreatDoorPPrb2
set_option linter.unusedSimpArgs false
set_option linter.unusedVariables false
namespace Bk
open Go Go.RowKit Go.Proofs
def tab : Tab := [(1, .func, 1),
 (2, .int .i64, 1),
 (3, .int .i64, 1),
 (4, .bool, 1),
 (5, .int .u8, 1),
 (6, .int .u8, 1),
 (7, .struct [(0, 2), (1, 3), (2, 4), (3, 6)], 4),
 (8, .struct [(0, 2), (1, 3), (2, 4), (3, 6)], 4),
 (9, .str, 1),
 (10, .str, 1),
 (11, .str, 1),
 (12, .int .u64, 1),
 (13, .struct [(0, 9), (1, 12)], 2),
 (14, .struct [(0, 9), (1, 12)], 2),
 (15, .ptr 161, 1),
 (16, .ptr 164, 1),
 (17, .ptr 172, 1),
 (18, .struct [(0, 17)], 1),
 (19, .struct [(0, 17)], 1),
 (20, .iface, 1),
 (21, .int .i32, 1),
 (22, .slice 24, 1),
 (23, .struct [(0, 5), (1, 3), (2, 9), (3, 22)], 4),
 (24, .struct [(0, 5), (1, 3), (2, 9), (3, 22)], 4),
 (25, .func, 1),
 (26, .func, 1),
 (27, .int .i64, 1),
 (29, .func, 1),
 (31, .func, 1),
 (32, .func, 1),
 (33, .slice 3, 1),
 (34, .func, 1),
 (35, .slice 73, 1),
 (36, .slice 75, 1),
 (37, .struct [(0, 35), (1, 36), (2, 24)], 6),
 (38, .struct [(0, 35), (1, 36), (2, 24)], 6),
 (39, .func, 1),
 (40, .func, 1),
 (41, .func, 1),
 (43, .func, 1),
 (44, .func, 1),
 (45, .func, 1),
 (46, .func, 1),
 (47, .func, 1),
 (48, .func, 1),
 (49, .func, 1),
 (50, .ptr 3, 1),
 (51, .func, 1),
 (52, .ptr 55, 1),
 (53, .slice 5, 1),
 (54, .struct [(0, 52), (1, 53)], 2),
 (55, .struct [(0, 52), (1, 53)], 2),
 (56, .struct [(0, 55)], 2),
 (57, .struct [(0, 55)], 2),
 (58, .func, 1),
 (59, .func, 1),
 (60, .ptr 69, 1),
 (61, .func, 1),
 (62, .func, 1),
 (63, .func, 1),
 (64, .func, 1),
 (65, .func, 1),
 (66, .slice 96, 1),
 (67, .map 9 5, 1),
 (68, .struct [(0, 66), (1, 3), (2, 3), (3, 67), (4, 3), (5, 27)], 6),
 (69, .struct [(0, 66), (1, 3), (2, 3), (3, 67), (4, 3), (5, 27)], 6),
 (70, .func, 1),
 (71, .func, 1),
 (72, .struct [(0, 9), (1, 5), (2, 3)], 3),
 (73, .struct [(0, 9), (1, 5), (2, 3)], 3),
 (74, .struct [(0, 9), (1, 35), (2, 24)], 6),
 (75, .struct [(0, 9), (1, 35), (2, 24)], 6),
 (76, .func, 1),
 (77, .func, 1),
 (78, .func, 1),
 (79, .func, 1),
 (80, .func, 1),
 (81, .func, 1),
 (82, .func, 1),
 (83, .slice 26, 1),
 (84, .ptr 57, 1),
 (85, .func, 1),
 (86, .func, 1),
 (87, .func, 1),
 (88, .func, 1),
 (89, .ptr 5, 1),
 (91, .func, 1),
 (92, .func, 1),
 (93, .func, 1),
 (95, .struct [(0, 5), (1, 9), (2, 3)], 3),
 (96, .struct [(0, 5), (1, 9), (2, 3)], 3),
 (97, .func, 1),
 (98, .func, 1),
 (99, .func, 1),
 (100, .func, 1),
 (102, .func, 1),
 (103, .slice 9, 1),
 (104, .iface, 1),
 (105, .iface, 1),
 (107, .func, 1),
 (108, .func, 1),
 (109, .func, 1),
 (110, .func, 1),
 (111, .array 43 9, 43),
 (112, .func, 1),
 (113, .func, 1),
 (114, .func, 1),
 (115, .func, 1),
 (116, .func, 1),
 (117, .func, 1),
 (118, .map 9 4, 1),
 (119, .func, 1),
 (120, .func, 1),
 (121, .func, 1),
 (122, .func, 1),
 (123, .func, 1),
 (125, .func, 1),
 (126, .array 24 5, 24),
 (127, .int .u64, 1),
 (128, .func, 1),
 (129, .func, 1),
 (131, .func, 1),
 (132, .func, 1),
 (133, .func, 1),
 (134, .func, 1),
 (135, .array 20 127, 20),
 (136, .int .u32, 1),
 (138, .func, 1),
 (139, .int .u64, 1),
 (140, .func, 1),
 (141, .int .i64, 1),
 (143, .func, 1),
 (144, .ptr 152, 1),
 (145, .func, 1),
 (146, .func, 1),
 (147, .func, 1),
 (149, .func, 1),
 (150, .func, 1),
 (151, .struct [(0, 9), (1, 9), (2, 105)], 3),
 (152, .struct [(0, 9), (1, 9), (2, 105)], 3),
 (153, .func, 1),
 (154, .array 32 5, 32),
 (155, .array 64 5, 64),
 (156, .func, 1),
 (157, .ptr 159, 1),
 (158, .struct [(0, 9)], 1),
 (159, .struct [(0, 9)], 1),
 (160, .struct [(0, 17), (1, 17), (2, 17), (3, 9)], 4),
 (161, .struct [(0, 17), (1, 17), (2, 17), (3, 9)], 4),
 (162, .array 0 16, 0),
 (165, .func, 1),
 (166, .int .u8, 1),
 (167, .int .u8, 1),
 (168, .func, 1),
 (169, .int .i32, 1),
 (170, .int .i32, 1),
 (171, .struct [(0, 12), (1, 12), (2, 136), (3, 166), (4, 5), (5, 5), (6, 167), (7, 168), (8, 89), (9, 169), (10, 170)], 11),
 (172, .struct [(0, 12), (1, 12), (2, 136), (3, 166), (4, 5), (5, 5), (6, 167), (7, 168), (8, 89), (9, 169), (10, 170)], 11)]
def zt : ZTab := [(1, [.nilFunc]),
 (2, [.int .i64 0]),
 (3, [.int .i64 0]),
 (4, [.bool false]),
 (5, [.int .u8 0]),
 (6, [.int .u8 0]),
 (7, [.int .i64 0, .int .i64 0, .bool false, .int .u8 0]),
 (8, [.int .i64 0, .int .i64 0, .bool false, .int .u8 0]),
 (9, [.string ⟨#[]⟩]),
 (10, [.string ⟨#[]⟩]),
 (11, [.string ⟨#[]⟩]),
 (12, [.int .u64 0]),
 (13, [.string ⟨#[]⟩, .int .u64 0]),
 (14, [.string ⟨#[]⟩, .int .u64 0]),
 (15, [.pointer none]),
 (16, [.pointer none]),
 (17, [.pointer none]),
 (18, [.pointer none]),
 (19, [.pointer none]),
 (20, [.nilIface]),
 (21, [.int .i32 0]),
 (22, [.slice none 0 0]),
 (23, [.int .u8 0, .int .i64 0, .string ⟨#[]⟩, .slice none 0 0]),
 (24, [.int .u8 0, .int .i64 0, .string ⟨#[]⟩, .slice none 0 0]),
 (25, [.nilFunc]),
 (26, [.nilFunc]),
 (27, [.int .i64 0]),
 (29, [.nilFunc]),
 (31, [.nilFunc]),
 (32, [.nilFunc]),
 (33, [.slice none 0 0]),
 (34, [.nilFunc]),
 (35, [.slice none 0 0]),
 (36, [.slice none 0 0]),
 (37, [.slice none 0 0, .slice none 0 0, .int .u8 0, .int .i64 0, .string ⟨#[]⟩, .slice none 0 0]),
 (38, [.slice none 0 0, .slice none 0 0, .int .u8 0, .int .i64 0, .string ⟨#[]⟩, .slice none 0 0]),
 (39, [.nilFunc]),
 (40, [.nilFunc]),
 (41, [.nilFunc]),
 (43, [.nilFunc]),
 (44, [.nilFunc]),
 (45, [.nilFunc]),
 (46, [.nilFunc]),
 (47, [.nilFunc]),
 (48, [.nilFunc]),
 (49, [.nilFunc]),
 (50, [.pointer none]),
 (51, [.nilFunc]),
 (52, [.pointer none]),
 (53, [.slice none 0 0]),
 (54, [.pointer none, .slice none 0 0]),
 (55, [.pointer none, .slice none 0 0]),
 (56, [.pointer none, .slice none 0 0]),
 (57, [.pointer none, .slice none 0 0]),
 (58, [.nilFunc]),
 (59, [.nilFunc]),
 (60, [.pointer none]),
 (61, [.nilFunc]),
 (62, [.nilFunc]),
 (63, [.nilFunc]),
 (64, [.nilFunc]),
 (65, [.nilFunc]),
 (66, [.slice none 0 0]),
 (67, [.map none]),
 (68, [.slice none 0 0, .int .i64 0, .int .i64 0, .map none, .int .i64 0, .int .i64 0]),
 (69, [.slice none 0 0, .int .i64 0, .int .i64 0, .map none, .int .i64 0, .int .i64 0]),
 (70, [.nilFunc]),
 (71, [.nilFunc]),
 (72, [.string ⟨#[]⟩, .int .u8 0, .int .i64 0]),
 (73, [.string ⟨#[]⟩, .int .u8 0, .int .i64 0]),
 (74, [.string ⟨#[]⟩, .slice none 0 0, .int .u8 0, .int .i64 0, .string ⟨#[]⟩, .slice none 0 0]),
 (75, [.string ⟨#[]⟩, .slice none 0 0, .int .u8 0, .int .i64 0, .string ⟨#[]⟩, .slice none 0 0]),
 (76, [.nilFunc]),
 (77, [.nilFunc]),
 (78, [.nilFunc]),
 (79, [.nilFunc]),
 (80, [.nilFunc]),
 (81, [.nilFunc]),
 (82, [.nilFunc]),
 (83, [.slice none 0 0]),
 (84, [.pointer none]),
 (85, [.nilFunc]),
 (86, [.nilFunc]),
 (87, [.nilFunc]),
 (88, [.nilFunc]),
 (89, [.pointer none]),
 (91, [.nilFunc]),
 (92, [.nilFunc]),
 (93, [.nilFunc]),
 (95, [.int .u8 0, .string ⟨#[]⟩, .int .i64 0]),
 (96, [.int .u8 0, .string ⟨#[]⟩, .int .i64 0]),
 (97, [.nilFunc]),
 (98, [.nilFunc]),
 (99, [.nilFunc]),
 (100, [.nilFunc]),
 (102, [.nilFunc]),
 (103, [.slice none 0 0]),
 (104, [.nilIface]),
 (105, [.nilIface]),
 (107, [.nilFunc]),
 (108, [.nilFunc]),
 (109, [.nilFunc]),
 (110, [.nilFunc]),
 (111, [.string ⟨#[]⟩, .string ⟨#[]⟩, .string ⟨#[]⟩, .string ⟨#[]⟩, .string ⟨#[]⟩, .string ⟨#[]⟩, .string ⟨#[]⟩, .string ⟨#[]⟩, .string ⟨#[]⟩, .string ⟨#[]⟩, .string ⟨#[]⟩, .string ⟨#[]⟩, .string ⟨#[]⟩, .string ⟨#[]⟩, .string ⟨#[]⟩, .string ⟨#[]⟩, .string ⟨#[]⟩, .string ⟨#[]⟩, .string ⟨#[]⟩, .string ⟨#[]⟩, .string ⟨#[]⟩, .string ⟨#[]⟩, .string ⟨#[]⟩, .string ⟨#[]⟩, .string ⟨#[]⟩, .string ⟨#[]⟩, .string ⟨#[]⟩, .string ⟨#[]⟩, .string ⟨#[]⟩, .string ⟨#[]⟩, .string ⟨#[]⟩, .string ⟨#[]⟩, .string ⟨#[]⟩, .string ⟨#[]⟩, .string ⟨#[]⟩, .string ⟨#[]⟩, .string ⟨#[]⟩, .string ⟨#[]⟩, .string ⟨#[]⟩, .string ⟨#[]⟩, .string ⟨#[]⟩, .string ⟨#[]⟩, .string ⟨#[]⟩]),
 (112, [.nilFunc]),
 (113, [.nilFunc]),
 (114, [.nilFunc]),
 (115, [.nilFunc]),
 (116, [.nilFunc]),
 (117, [.nilFunc]),
 (118, [.map none]),
 (119, [.nilFunc]),
 (120, [.nilFunc]),
 (121, [.nilFunc]),
 (122, [.nilFunc]),
 (123, [.nilFunc]),
 (125, [.nilFunc]),
 (126, [.int .u8 0, .int .u8 0, .int .u8 0, .int .u8 0, .int .u8 0, .int .u8 0, .int .u8 0, .int .u8 0, .int .u8 0, .int .u8 0, .int .u8 0, .int .u8 0, .int .u8 0, .int .u8 0, .int .u8 0, .int .u8 0, .int .u8 0, .int .u8 0, .int .u8 0, .int .u8 0, .int .u8 0, .int .u8 0, .int .u8 0, .int .u8 0]),
 (127, [.int .u64 0]),
 (128, [.nilFunc]),
 (129, [.nilFunc]),
 (131, [.nilFunc]),
 (132, [.nilFunc]),
 (133, [.nilFunc]),
 (134, [.nilFunc]),
 (135, [.int .u64 0, .int .u64 0, .int .u64 0, .int .u64 0, .int .u64 0, .int .u64 0, .int .u64 0, .int .u64 0, .int .u64 0, .int .u64 0, .int .u64 0, .int .u64 0, .int .u64 0, .int .u64 0, .int .u64 0, .int .u64 0, .int .u64 0, .int .u64 0, .int .u64 0, .int .u64 0]),
 (136, [.int .u32 0]),
 (138, [.nilFunc]),
 (139, [.int .u64 0]),
 (140, [.nilFunc]),
 (141, [.int .i64 0]),
 (143, [.nilFunc]),
 (144, [.pointer none]),
 (145, [.nilFunc]),
 (146, [.nilFunc]),
 (147, [.nilFunc]),
 (149, [.nilFunc]),
 (150, [.nilFunc]),
 (151, [.string ⟨#[]⟩, .string ⟨#[]⟩, .nilIface]),
 (152, [.string ⟨#[]⟩, .string ⟨#[]⟩, .nilIface]),
 (153, [.nilFunc]),
 (154, [.int .u8 0, .int .u8 0, .int .u8 0, .int .u8 0, .int .u8 0, .int .u8 0, .int .u8 0, .int .u8 0, .int .u8 0, .int .u8 0, .int .u8 0, .int .u8 0, .int .u8 0, .int .u8 0, .int .u8 0, .int .u8 0, .int .u8 0, .int .u8 0, .int .u8 0, .int .u8 0, .int .u8 0, .int .u8 0, .int .u8 0, .int .u8 0, .int .u8 0, .int .u8 0, .int .u8 0, .int .u8 0, .int .u8 0, .int .u8 0, .int .u8 0, .int .u8 0]),
 (155, [.int .u8 0, .int .u8 0, .int .u8 0, .int .u8 0, .int .u8 0, .int .u8 0, .int .u8 0, .int .u8 0, .int .u8 0, .int .u8 0, .int .u8 0, .int .u8 0, .int .u8 0, .int .u8 0, .int .u8 0, .int .u8 0, .int .u8 0, .int .u8 0, .int .u8 0, .int .u8 0, .int .u8 0, .int .u8 0, .int .u8 0, .int .u8 0, .int .u8 0, .int .u8 0, .int .u8 0, .int .u8 0, .int .u8 0, .int .u8 0, .int .u8 0, .int .u8 0, .int .u8 0, .int .u8 0, .int .u8 0, .int .u8 0, .int .u8 0, .int .u8 0, .int .u8 0, .int .u8 0, .int .u8 0, .int .u8 0, .int .u8 0, .int .u8 0, .int .u8 0, .int .u8 0, .int .u8 0, .int .u8 0, .int .u8 0, .int .u8 0, .int .u8 0, .int .u8 0, .int .u8 0, .int .u8 0, .int .u8 0, .int .u8 0, .int .u8 0, .int .u8 0, .int .u8 0, .int .u8 0, .int .u8 0, .int .u8 0, .int .u8 0, .int .u8 0]),
 (156, [.nilFunc]),
 (157, [.pointer none]),
 (158, [.string ⟨#[]⟩]),
 (159, [.string ⟨#[]⟩]),
 (160, [.pointer none, .pointer none, .pointer none, .string ⟨#[]⟩]),
 (161, [.pointer none, .pointer none, .pointer none, .string ⟨#[]⟩]),
 (162, []),
 (165, [.nilFunc]),
 (166, [.int .u8 0]),
 (167, [.int .u8 0]),
 (168, [.nilFunc]),
 (169, [.int .i32 0]),
 (170, [.int .i32 0]),
 (171, [.int .u64 0, .int .u64 0, .int .u32 0, .int .u8 0, .int .u8 0, .int .u8 0, .int .u8 0, .nilFunc, .pointer none, .int .i32 0, .int .i32 0]),
 (172, [.int .u64 0, .int .u64 0, .int .u32 0, .int .u8 0, .int .u8 0, .int .u8 0, .int .u8 0, .nilFunc, .pointer none, .int .i32 0, .int .i32 0])]
theorem tabOk : TabOk Tryz.prog tab := TabOk.of_check (by kernel_rfl)
theorem zOk : ZTabOk Tryz.prog zt := ⟨by kernel_rfl, by kernel_rfl, by kernel_rfl, by kernel_rfl, by kernel_rfl, by kernel_rfl, by kernel_rfl, by kernel_rfl, by kernel_rfl, by kernel_rfl, by kernel_rfl, by kernel_rfl, by kernel_rfl, by kernel_rfl, by kernel_rfl, by kernel_rfl, by kernel_rfl, by kernel_rfl, by kernel_rfl, by kernel_rfl, by kernel_rfl, by kernel_rfl, by kernel_rfl, by kernel_rfl, by kernel_rfl, by kernel_rfl, by kernel_rfl, by kernel_rfl, by kernel_rfl, by kernel_rfl, by kernel_rfl, by kernel_rfl, by kernel_rfl, by kernel_rfl, by kernel_rfl, by kernel_rfl, by kernel_rfl, by kernel_rfl, by kernel_rfl, by kernel_rfl, by kernel_rfl, by kernel_rfl, by kernel_rfl, by kernel_rfl, by kernel_rfl, by kernel_rfl, by kernel_rfl, by kernel_rfl, by kernel_rfl, by kernel_rfl, by kernel_rfl, by kernel_rfl, by kernel_rfl, by kernel_rfl, by kernel_rfl, by kernel_rfl, by kernel_rfl, by kernel_rfl, by kernel_rfl, by kernel_rfl, by kernel_rfl, by kernel_rfl, by kernel_rfl, by kernel_rfl, by kernel_rfl, by kernel_rfl, by kernel_rfl, by kernel_rfl, by kernel_rfl, by kernel_rfl, by kernel_rfl, by kernel_rfl, by kernel_rfl, by kernel_rfl, by kernel_rfl, by kernel_rfl, by kernel_rfl, by kernel_rfl, by kernel_rfl, by kernel_rfl, by kernel_rfl, by kernel_rfl, by kernel_rfl, by kernel_rfl, by kernel_rfl, by kernel_rfl, by kernel_rfl, by kernel_rfl, by kernel_rfl, by kernel_rfl, by kernel_rfl, by kernel_rfl, by kernel_rfl, by kernel_rfl, by kernel_rfl, by kernel_rfl, by kernel_rfl, by kernel_rfl, by kernel_rfl, by kernel_rfl, by kernel_rfl, by kernel_rfl, by kernel_rfl, by kernel_rfl, by kernel_rfl, by kernel_rfl, by kernel_rfl, by kernel_rfl, by kernel_rfl, by kernel_rfl, by kernel_rfl, by kernel_rfl, by kernel_rfl, by kernel_rfl, by kernel_rfl, by kernel_rfl, by kernel_rfl, by kernel_rfl, by kernel_rfl, by kernel_rfl, by kernel_rfl, by kernel_rfl, by kernel_rfl, by kernel_rfl, by kernel_rfl, by kernel_rfl, by kernel_rfl, by kernel_rfl, by kernel_rfl, by kernel_rfl, by kernel_rfl, by kernel_rfl, by kernel_rfl, by kernel_rfl, by kernel_rfl, by kernel_rfl, by kernel_rfl, by kernel_rfl, by kernel_rfl, by kernel_rfl, by kernel_rfl, by kernel_rfl, by kernel_rfl, by kernel_rfl, by kernel_rfl, by kernel_rfl, by kernel_rfl, by kernel_rfl, by kernel_rfl, by kernel_rfl, by kernel_rfl, by kernel_rfl, by kernel_rfl, by kernel_rfl, by kernel_rfl, by kernel_rfl, by kernel_rfl, by kernel_rfl, trivial⟩
theorem mixed : Tryz.prog.follows .mixedOrders = true := by kernel_rfl
end Bk
namespace Bk
open Go Go.RowKit
theorem New.put {w w1 w2 : World} {b : Nat} {vs us : List Value} (h : New w w1 b vs) (p : Put w1 w2 b us) : New w w2 b us :=
 ⟨h.pos, p.blk, ⟨p.fr.os.trans (Below.os h.ext), p.fr.tape.trans (Below.tape h.ext), p.fr.output.trans (Below.output h.ext), Nat.le_trans h.ext.size p.fr.size,
  fun k hk => (p.fr.block k (Nat.lt_of_lt_of_le hk h.ext.size) (by have := h.pos; omega)).trans (h.ext.block hk)⟩, by rw [p.size, h.size]⟩
theorem Ext.put {a w w1 : World} {b : Nat} {vs : List Value} (h : Ext a w) (p : Put w w1 b vs) (hb : a.heap.size ≤ b) : Ext a w1 :=
 ⟨p.fr.os.trans (Below.os h), p.fr.tape.trans (Below.tape h), p.fr.output.trans (Below.output h), Nat.le_trans h.size p.fr.size,
  fun k hk => (p.fr.block k (Nat.lt_of_lt_of_le hk h.size) (by omega)).trans (h.block hk)⟩
theorem Blk.put {w w1 : World} {b c : Nat} {vs us : List Value} (h : Blk w c us) (p : Put w w1 b vs) (hb : c ≠ b) : Blk w1 c us := h.fr p.fr hb
section seqs
variable {P : Program} {n : Nat} {ops : Array Oper} {Q : Exit → Act → World → Prop} {rest : List Oper} {l : Sl} {w : World} {tab : Tab}
 {d : Nat} {ty : TypeId} {pos : String} {after : Array Edge}
theorem lw_box {x : Operand} {t : Nat} {v : Value} {vs : List Value} (hx : ev l x = some v) (hv : v.cells = vs.toArray) (hd : Nat.blt d n = true)
 (k : ∀ b w1, New w w1 b vs → LW P n ops Q rest ((d, .pointer (some ⟨b, 0, none⟩)) :: l) w1) : LW P n ops Q (⟨some d, .box t x, ty, pos, after, none⟩ :: rest) l w :=
 lw_does (does_box hx hv) hd (fun _ w1 ⟨b, h, hn⟩ => h ▸ k b w1 hn) (fun _ h => h)
theorem lw_alloc {zt : ZTab} {t : Nat} {vs : List Value} (Z : ZTabOk P zt) (hz : lookZ zt t = some vs) (hd : Nat.blt d n = true)
 (k : ∀ b w1, New w w1 b vs → LW P n ops Q rest ((d, .pointer (some ⟨b, 0, none⟩)) :: l) w1) : LW P n ops Q (⟨some d, .alloc t, ty, pos, after, none⟩ :: rest) l w :=
 lw_does (does_alloc Z hz) hd (fun _ w1 ⟨b, h, hn⟩ => h ▸ k b w1 hn) (fun _ h => h)
theorem lw_store {x y : Operand} {t sz b o : Nat} {s : Sk} {v : Value} {vs us : List Value} (T : TabOk P tab) (ht : lookT tab t = some (s, sz)) (hx : ev l x = some (.pointer (some ⟨b, o, none⟩))) (hy : ev l y = some v)
 (hv : v.cells = us.toArray) (hl : us.length = sz) (h1 : us.all Value.one = true) (hb : Blk w b vs) (ho : Nat.ble (o + us.length) vs.length = true)
 (k : ∀ w1, Put w w1 b (setMany vs o us) → LW P n ops Q rest l w1) : LW P n ops Q (⟨none, .store t x y, ty, pos, after, none⟩ :: rest) l w :=
 lw_does0 (does_store T ht hx hy hv hl h1 hb ho) (fun v w1 h => by cases v with | none => exact k w1 h | some _ => exact h.elim)
theorem lw_init {w0 : World} {x y : Operand} {t sz b : Nat} {s : Sk} {v : Value} {vs us : List Value} (T : TabOk P tab) (ht : lookT tab t = some (s, sz)) (hx : ev l x = some (.pointer (some ⟨b, 0, none⟩))) (hy : ev l y = some v)
 (hv : v.cells = us.toArray) (hl : us.length = sz) (h1 : us.all Value.one = true) (hb : New w0 w b vs) (ho : us.length = vs.length)
 (k : ∀ w1, New w0 w1 b us → LW P n ops Q rest l w1) : LW P n ops Q (⟨none, .store t x y, ty, pos, after, none⟩ :: rest) l w :=
 lw_store T ht hx hy hv hl h1 hb.blk (by simp [ho]) (fun w1 p => k w1 (hb.put (by
  have e : setMany vs 0 us = us := by
   have key : ∀ (us vs pre : List Value), us.length = vs.length → setMany (pre ++ vs) pre.length us = pre ++ us := by
    intro us
    induction us with
    | nil => intro vs pre h; cases vs with | nil => simp [setMany] | cons _ _ => simp at h
    | cons u r ih =>
     intro vs pre h
     cases vs with
     | nil => simp at h
     | cons x vs =>
      simp only [setMany]
      have : (pre ++ x :: vs).set pre.length u = (pre ++ [u]) ++ vs := by simp
      rw [this]
      have := ih vs (pre ++ [u]) (by simpa using h)
      simp only [List.length_append, List.length_cons, List.length_nil] at this
      rw [this]; simp
   simpa using key us vs [] ho
  rw [e] at p; exact p)))
end seqs
theorem fold_set (v : List Value) : ∀ (cells : Array Value) (off j : Nat), ((v.zipIdx j).foldl (fun cs (c : Value × Nat) => cs.setIfInBounds (off + c.2) c.1) cells).toList = setMany cells.toList (off + j) v := by
 induction v with
 | nil => intro cells off j; simp [setMany]
 | cons x r ih =>
  intro cells off j
  simp only [List.zipIdx_cons, List.foldl_cons, setMany]
  rw [ih]
  simp only [Array.toList_setIfInBounds]
  rw [show off + (j + 1) = off + j + 1 from by omega]
def fillL : List (Nat × Nat × List Value) → List Value → Option (List Value)
 | [], cells => some cells
 | (off, size, v) :: r, cells => match Nat.beq v.length size with
  | true => match Nat.ble (off + size) cells.length with
   | true => fillL r (setMany cells off v)
   | false => none
  | false => none
theorem fill_of {place : Nat → Option (Nat × Nat)} : ∀ (ps : List (Nat × Value)) (qs : List (Nat × Nat × List Value)) (cells : Array Value) (out : List Value),
 ps.length = qs.length → (∀ (i : Nat) (p : Nat × Value) (q : Nat × Nat × List Value), ps[i]? = some p → qs[i]? = some q → place p.1 = some (q.1, q.2.1) ∧ p.2.cells = q.2.2.toArray) → fillL qs cells.toList = some out → Instr.fill place cells ps = some out.toArray
 | [], [], cells, out, _, _, h => by simp only [fillL, Option.some.injEq] at h; subst h; simp [Instr.fill]
 | [], _ :: _, _, _, hl, _, _ => by simp at hl
 | _ :: _, [], _, _, hl, _, _ => by simp at hl
 | (i, v) :: ps, (off, size, us) :: qs, cells, out, hl, hp, h => by
  obtain ⟨h1, h2⟩ := hp 0 _ _ rfl rfl
  simp only at h1 h2
  simp only [fillL] at h
  split at h
  · rename_i e1
    split at h
    · rename_i e2
      have e1' := Nat.eq_of_beq_eq_true e1
      have e2' := Nat.le_of_ble_eq_true e2
      simp only [Array.length_toList] at e2'
      have hsz : v.cells.size = us.length := by rw [h2]; simp
      simp only [Instr.fill, h1]
      have hc : ¬ (decide (v.cells.size ≠ size) || decide (off + v.cells.size > cells.size)) = true := by simp [hsz, e1']; omega
      rw [if_neg (by simpa using hc)]
      refine fill_of ps qs _ out (by simpa using hl) (fun j p q hj hq => hp (j + 1) p q hj hq) ?_
      have hz : v.cells.zipIdx.foldl (fun cs (c : Value × Nat) => cs.setIfInBounds (off + c.2) c.1) cells = (setMany cells.toList off us).toArray := by
       apply Array.ext'
       rw [← Array.foldl_toList]
       have := fold_set us cells off 0
       simpa [h2, Array.toList_zipIdx] using this
      rw [show (v.cells.zipIdx.foldl (fun cs x => match x with | (c, j) => cs.setIfInBounds (off + j) c) cells) = (setMany cells.toList off us).toArray from hz]
      simpa using h
    · cases h
  · cases h
theorem setMany_mid : ∀ (us vs pre post : List Value), us.length = vs.length → setMany (pre ++ vs ++ post) pre.length us = pre ++ us ++ post := by
 intro us
 induction us with
 | nil => intro vs pre post h; cases vs with | nil => simp [setMany] | cons _ _ => simp at h
 | cons u r ih =>
  intro vs pre post h
  cases vs with
  | nil => simp at h
  | cons x vs =>
   simp only [setMany]
   have e : (pre ++ x :: vs ++ post).set pre.length u = (pre ++ [u]) ++ vs ++ post := by simp
   rw [e]
   have := ih vs (pre ++ [u]) post (by simpa using h)
   simp only [List.length_append, List.length_cons, List.length_nil] at this
   rw [this]; simp
def enumQ (size : Nat) : Nat → List (List Value) → List (Nat × Nat × List Value)
 | _, [] => []
 | k, v :: r => (k * size, size, v) :: enumQ size (k + 1) r
theorem fill_enum (size : Nat) : ∀ (vss : List (List Value)) (k : Nat) (pre rest : List Value), pre.length = k * size → (∀ v ∈ vss, v.length = size) → rest.length = vss.length * size →
 fillL (enumQ size k vss) (pre ++ rest) = some (pre ++ vss.flatten)
 | [], k, pre, rest, _, _, h => by
  have : rest = [] := by simpa using h
  subst this; simp [enumQ, fillL]
 | v :: r, k, pre, rest, hp, hv, hr => by
  have hv0 := hv v List.mem_cons_self
  simp only [List.length_cons, Nat.add_mul, Nat.one_mul] at hr
  have hsp : rest = rest.take size ++ rest.drop size := (List.take_append_drop _ _).symm
  have htl : (rest.take size).length = v.length := by rw [List.length_take, hv0]; omega
  simp only [enumQ, fillL]
  have b1 : Nat.beq v.length size = true := by rw [hv0]; exact Nat.beq_refl size
  have b2 : Nat.ble (k * size + size) (pre ++ rest).length = true := Nat.ble_eq_true_of_le (by rw [List.length_append]; omega)
  rw [b1]; simp only; rw [b2]; simp only
  have e : setMany (pre ++ rest) (k * size) v = pre ++ v ++ rest.drop size := by
   have := setMany_mid v (rest.take size) pre (rest.drop size) htl.symm
   rw [List.append_assoc, ← hsp, hp] at this
   exact this
  rw [e]
  have := fill_enum size r (k + 1) (pre ++ v) (rest.drop size) (by rw [List.length_append, hp, hv0, Nat.add_mul, Nat.one_mul]) (fun u hu => hv u (List.mem_cons_of_mem _ hu)) (by rw [List.length_drop]; omega)
  rw [this]; simp
def evParts (l : Sl) : Nat → List (Nat × Operand) → Option (List Value)
 | _, [] => some []
 | k, (i, x) :: r => match Nat.beq i k with
  | true => match ev l x with
   | some v => match evParts l (k + 1) r with
    | some vs => some (v :: vs)
    | none => none
   | none => none
  | false => none
theorem evParts_spec {n : Nat} {l : Sl} {a : Act} (ha : Env n l a) : ∀ (ps : List (Nat × Operand)) (k : Nat) (vs : List Value), evParts l k ps = some vs → ps.map (fun p => (p.1, a.eval p.2)) = (vs.zipIdx k).map (fun v => (v.2, v.1))
 | [], k, vs, h => by simp only [evParts, Option.some.injEq] at h; subst h; rfl
 | (i, x) :: r, k, vs, h => by
  simp only [evParts] at h
  split at h
  · rename_i hb
    have hik := Nat.eq_of_beq_eq_true hb
    split at h
    · rename_i v hv
      split at h
      · rename_i us hu
        simp only [Option.some.injEq] at h
        subst h hik
        simp [ha.ev hv, evParts_spec ha r _ _ hu]
      · cases h
    · cases h
  · cases h
def SliceAt (w : World) (len : Nat) (vs : List Value) (T : TypeId) : Option Value → World → Prop
 | some v, w1 => ∃ b, v = .slice (some ⟨b, 0, none⟩) len len ∧ New w w1 b vs ∧ w1.heap[b]? = some (.cells vs.toArray T (0, 0))
 | none, _ => False
theorem enumQ_get (size : Nat) : ∀ (vss : List (List Value)) (k i : Nat) (q : Nat × Nat × List Value), (enumQ size k vss)[i]? = some q → ∃ v, vss[i]? = some v ∧ q = ((k + i) * size, size, v)
 | [], _, _, _, h => by simp [enumQ] at h
 | v :: r, k, 0, q, h => by simp [enumQ] at h; exact ⟨v, rfl, by simp [h]⟩
 | v :: r, k, i + 1, q, h => by
  simp only [enumQ, List.getElem?_cons_succ] at h
  obtain ⟨u, h1, h2⟩ := enumQ_get size r (k + 1) i q h
  exact ⟨u, by simpa using h1, by rw [h2]; congr 2; omega⟩
theorem enumQ_length (size : Nat) : ∀ (vss : List (List Value)) (k : Nat), (enumQ size k vss).length = vss.length
 | [], _ => rfl
 | _ :: r, k => by simp [enumQ, enumQ_length size r]
section does
variable {P : Program} {n : Nat} {l : Sl} {w : World} {tab : Tab} {zt : ZTab} {ty : TypeId}
theorem does_slice {t e sz szE len : Nat} {sE : Sk} {zs : List Value} {ps : List (Nat × Operand)} {vs : List Value} (T : TabOk P tab) (Z : ZTabOk P zt) (ht : lookT tab t = some (.slice e, sz)) (hE : lookT tab e = some (sE, szE))
 (hz : lookZ zt e = some zs) (hp : evParts l 0 ps = some vs) (hl : vs.length = len) (hc : vs.all (fun v => Nat.beq v.cells.size szE) = true) (hm : Nat.ble (len * szE) 10000 = true) (hn0 : Nat.blt 0 (len * szE) = true) :
 Does P n l (.buildSlice t len ps.toArray) ty w (SliceAt w len (vs.map (·.cells.toList)).flatten e) := by
 unfold Does
 intro a dst pos after g next Q ha hn _
 have hu : P.underlying t = some (.slice e) := (T _ _ _ ht).under
 have hm' := Nat.le_of_ble_eq_true hm
 have hn0' : 0 < len * szE := Nat.le_of_ble_eq_true hn0
 obtain ⟨i0, v0, z1, z2, z3⟩ := lookZ_ok Z hz
 have hps := evParts_spec ha ps 0 vs hp
 have hlen : ∀ v ∈ vs, v.cells.size = szE := fun v hv => Nat.eq_of_beq_eq_true (List.all_eq_true.1 hc v hv)
 have hfill : ∀ cells : Array Value, cells.size = len * szE → Instr.fill (fun i => some (i * szE, szE)) cells ((vs.zipIdx 0).map (fun v => (v.2, v.1))) = some (vs.map (·.cells.toList)).flatten.toArray := fun cells hcs => by
  refine fill_of _ (enumQ szE 0 (vs.map (·.cells.toList))) cells _ (by simp [enumQ_length]) ?_ ?_
  · intro i p q hi hq
    obtain ⟨v, hv, rfl⟩ := enumQ_get szE _ 0 i q hq
    simp only [List.getElem?_map, Option.map_eq_some_iff] at hv hi
    obtain ⟨x, hx, rfl⟩ := hv
    obtain ⟨y, hy, rfl⟩ := hi
    rw [List.getElem?_zipIdx] at hy
    rw [hx] at hy
    simp only [Option.map_some, Option.some.injEq] at hy
    subst hy
    simp
  · have := fill_enum szE (vs.map (·.cells.toList)) 0 [] cells.toList (by simp) (by simpa using hlen) (by simp [hcs, hl])
    simpa using this
 have e1 : (execOp a.eval ⟨dst, .buildSlice t len ps.toArray, ty, pos, after, g⟩).run P w = .ok (.value (.slice (some ⟨w.heap.size, 0, none⟩) len len)) (w.alloc (.cells (vs.map (·.cells.toList)).flatten.toArray e (0, 0))) := by
  have hpa : (ps.toArray.map fun (p : Nat × Operand) => (p.1, a.eval p.2)).toList = (vs.zipIdx 0).map (fun v => (v.2, v.1)) := by simpa using hps
  have hb : (Instr.buildSlice t len (ps.toArray.map fun (p : Nat × Operand) => (p.1, a.eval p.2))).run P w = .ok (.slice (some ⟨w.heap.size, 0, none⟩) len len) (w.alloc (.cells (vs.map (·.cells.toList)).flatten.toArray e (0, 0))) := by
   simp only [Instr.buildSlice, Sem.run_bind, run_underlying hu, Result.andThen, run_sizeOf (T _ _ _ hE), hpa]
   rw [if_neg (by omega)]
   simp only [if_neg (show ¬ len * szE = 0 by omega), zeroValue, typeInfo, program, Sem.run, z1, z2, bind, Sem.bind, pure]
   rw [hfill _ (by simp)]
   simp only [newRow, newObj, bind, Sem.bind, Sem.run, pure]
   rfl
  simp only [execOp, Sem.run_bind]
  rw [show (ps.toArray.map fun x => match x with | (i, x) => (i, a.eval x)) = ps.toArray.map fun (p : Nat × Operand) => (p.1, a.eval p.2) from rfl, hb]
  rfl
 unfold Oper.wp
 rw [e1]
 exact hn _ _ ⟨_, rfl, new_alloc _ _ _, by show (w.heap.push _)[w.heap.size]? = _; simp⟩
theorem pur_nilCheck {S : World → Prop} {x : Operand} {a : Addr} (hx : ev l x = some (.pointer (some a))) : Pur P n l S (.nilCheck x) ty (.pointer (some a)) := by
 unfold Pur
 intro a w dst pos after g ha _
 simp [execOp, ha.ev hx]
def partsS (tab : Tab) (fs : List (Nat × Nat)) (l : Sl) : List (Nat × Operand) → Option (List (Nat × Value) × List (Nat × Nat × List Value))
 | [] => some ([], [])
 | (i, x) :: r => match fs[i]? with
  | some (off, ft) => match lookT tab ft with
   | some (_, sz) => match ev l x with
    | some v => match partsS tab fs l r with
     | some (ps, qs) => some ((i, v) :: ps, (off, sz, v.cells.toList) :: qs)
     | none => none
    | none => none
   | none => none
  | none => none
theorem partsS_spec {a : Act} {fs : List (Nat × Nat)} {gs : Array Field} (T : TabOk P tab) (ha : Env n l a) (hg : ∀ (i o ft : Nat), fs[i]? = some (o, ft) → ∃ g : Field, gs[i]? = some g ∧ g.offset = o ∧ g.type = ft ∧ ∃ j : TypeInfo, P.info? ft = some j ∧ j.size ≠ 0)
 {pl : Array (Nat × Nat)} (hpl : ∀ (i : Nat) (g : Field) (s : Sk) (sz : Nat), gs[i]? = some g → TyOk P g.type s sz → pl[i]? = some (g.offset, sz)) : ∀ (xs : List (Nat × Operand)) (ps : List (Nat × Value)) (qs : List (Nat × Nat × List Value)), partsS tab fs l xs = some (ps, qs) →
  xs.map (fun p => (p.1, a.eval p.2)) = ps ∧ ps.length = qs.length ∧ ∀ (i : Nat) (p : Nat × Value) (q : Nat × Nat × List Value), ps[i]? = some p → qs[i]? = some q → pl[p.1]? = some (q.1, q.2.1) ∧ p.2.cells = q.2.2.toArray
 | [], ps, qs, h => by simp only [partsS, Option.some.injEq, Prod.mk.injEq] at h; obtain ⟨rfl, rfl⟩ := h; simp
 | (i, x) :: r, ps, qs, h => by
  simp only [partsS] at h
  split at h
  · rename_i off ft hf
    split at h
    · rename_i s sz ht
      split at h
      · rename_i v hv
        split at h
        · rename_i ps' qs' hr
          simp only [Option.some.injEq, Prod.mk.injEq] at h
          obtain ⟨rfl, rfl⟩ := h
          obtain ⟨h1, h2, h3⟩ := partsS_spec T ha hg hpl r ps' qs' hr
          refine ⟨by simp [ha.ev hv, h1], by simp [h2], ?_⟩
          rintro (_ | j) p q hp hq
          · simp only [List.getElem?_cons_zero, Option.some.injEq] at hp hq
            subst hp hq
            obtain ⟨g, g1, g2, g3, -⟩ := hg i off ft hf
            refine ⟨?_, by simp⟩
            have := hpl i g s sz g1 (by rw [g3]; exact T _ _ _ ht)
            rw [g2] at this; exact this
          · exact h3 j p q (by simpa using hp) (by simpa using hq)
        · cases h
      · cases h
    · cases h
  · cases h
theorem places_of : ∀ (fs : List Field), (∀ f ∈ fs, ∃ i, P.info? f.type = some i) → ∃ pl : List (Nat × Nat), fs.mapM (fun f => (P.info? f.type).map fun i => (f.offset, i.size)) = some pl ∧ ∀ (i : Nat) (g : Field) (s : Sk) (sz : Nat), fs[i]? = some g → TyOk P g.type s sz → pl[i]? = some (g.offset, sz)
 | [], _ => ⟨[], by simp, by simp⟩
 | f :: r, h => by
  obtain ⟨i, hi⟩ := h f List.mem_cons_self
  obtain ⟨pl, h1, h2⟩ := places_of r (fun g hg => h g (List.mem_cons_of_mem _ hg))
  refine ⟨(f.offset, i.size) :: pl, by simp [hi, h1], ?_⟩
  rintro (_ | j) g s sz hg ht
  · simp only [List.getElem?_cons_zero, Option.some.injEq] at hg
    subst hg
    obtain ⟨i', e1, e2⟩ := ht.info
    rw [hi] at e1
    injection e1 with e1
    subst e1
    simp [e2]
  · exact h2 j g s sz (by simpa using hg) ht
theorem pur_build {S : World → Prop} {t sz : Nat} {fs : List (Nat × Nat)} {xs : List (Nat × Operand)} {ps : List (Nat × Value)} {qs : List (Nat × Nat × List Value)} {zs out : List Value} (T : TabOk P tab) (Z : ZTabOk P zt)
 (ht : lookT tab t = some (.struct fs, sz)) (hz : lookZ zt t = some zs) (hp : partsS tab fs l xs = some (ps, qs)) (ho : fillL qs zs = some out) : Pur P n l S (.build t xs.toArray) ty (.agg out.toArray) := by
 unfold Pur
 intro a w dst pos after g ha _
 obtain ⟨gs, h1, h2, h3⟩ := (T _ _ _ ht).under
 obtain ⟨i0, v0, z1, z2, z3⟩ := lookZ_ok Z hz
 obtain ⟨pl, p1, p2⟩ := places_of (P := P) gs.toList (fun f hf => by
  obtain ⟨i, hi, rfl⟩ := List.mem_iff_getElem.1 hf
  have hlt : i < fs.length := by simpa [h2] using hi
  obtain ⟨g, g1, g2, g3, j, g4, -⟩ := h3 i fs[i].1 fs[i].2 (List.getElem?_eq_getElem hlt)
  have : gs.toList[i] = g := by
   have := Array.getElem?_eq_some_iff.1 g1
   simpa using this.2
  rw [this, g3]; exact ⟨j, g4⟩)
 obtain ⟨q1, q2, q3⟩ := partsS_spec T ha h3 (pl := pl.toArray) (fun i g s sz hg hk => by simpa using p2 i g s sz (by simpa using hg) hk) xs ps qs hp
 have hb : P.built t (xs.toArray.map fun (p : Nat × Operand) => (p.1, a.eval p.2)).toList = some out.toArray := by
  unfold Program.built
  simp only [z1, h1, z2, p1]
  rw [show (xs.toArray.map fun (p : Nat × Operand) => (p.1, a.eval p.2)).toList = ps from by simpa using q1]
  exact fill_of ps qs v0.cells out q2 q3 (by rw [z3]; simpa using ho)
 have := run_build w t _ _ hb
 simp only [execOp, Sem.run_bind]
 rw [show (xs.toArray.map fun x => match x with | (i, x) => (i, a.eval x)) = xs.toArray.map fun (p : Nat × Operand) => (p.1, a.eval p.2) from rfl, this]
 rfl
end does
theorem Row.sub {w : World} {b o : Nat} {vs : List Value} (h : Row w ⟨b, o, none⟩ vs) (i k : Nat) : Row w ⟨b, o + i, none⟩ ((vs.drop i).take k) := fun j v hj => by
 have hj' : vs[i + j]? = some v := by
  rw [List.getElem?_take] at hj
  split at hj
  · rwa [List.getElem?_drop] at hj
  · cases hj
 have := h.at hj'
 have e : (⟨b, o + i, none⟩ : Addr).add j = ⟨b, o + (i + j), none⟩ := by unfold Addr.add; by_cases h0 : j = 0 <;> simp [h0, Nat.add_assoc]
 rw [e]; exact this
section parts
variable {P : Program} {n : Nat} {l : Sl} {S : World → Prop} {ty : TypeId} {tab : Tab}
theorem pur_loads_blk {x : Operand} {t sz b o : Nat} {s : Sk} {vs : List Value} (T : TabOk P tab) (ht : lookT tab t = some (s, sz)) (hs : s.agg = true) (hx : ev l x = some (.pointer (some ⟨b, o, none⟩)))
 (hc : ∀ w, S w → Blk w b vs) (hl : Nat.ble (o + sz) vs.length = true) : Pur P n l S (.load t x) ty (.agg ((vs.drop o).take sz).toArray) :=
 pur_loads T ht hs hx (by have := Nat.le_of_ble_eq_true hl; simp; omega) (fun w hS => by have := (hc w hS).row.sub o sz; simpa using this)
end parts
theorem pur_len_s {P : Program} {n : Nat} {l : Sl} {S : World → Prop} {ty : TypeId} {tab : Tab} {x : Operand} {t sz : Nat} {a : List UInt8} (T : TabOk P tab) (ht : lookT tab t = some (.str, sz)) (hx : ev l x = some (str a)) : Pur P n l S (.call ⟨.builtin .len, #[x], #[t]⟩) ty (.int .i64 a.length) := pur_len_str T (pt := true) ht hx
def Arr {α : Type} (S : Nat → Prop) (sz : Nat) (E : World → Nat → Nat → α → Prop) (w : World) (l : List α) (a : Option Addr) : Prop :=
 l = [] ∨ ∃ b o, a = some ⟨b, o, none⟩ ∧ S b ∧ ∀ i x, l[i]? = some x → E w b (o + i * sz) x
theorem Arr.mono {α : Type} {S S' : Nat → Prop} {sz : Nat} {E E' : World → Nat → Nat → α → Prop} {w w' : World} {l : List α} {a : Option Addr} (h : Arr S sz E w l a) (hS : ∀ b, S b → S' b) (hE : ∀ b o x, x ∈ l → S b → E w b o x → E' w' b o x) : Arr S' sz E' w' l a := by
 rcases h with h | ⟨b, o, h1, h2, h3⟩
 · exact Or.inl h
 · exact Or.inr ⟨b, o, h1, hS b h2, fun i x hx => hE _ _ _ (List.mem_of_getElem? hx) h2 (h3 i x hx)⟩
theorem Arr.get {α : Type} {S : Nat → Prop} {sz : Nat} {E : World → Nat → Nat → α → Prop} {w : World} {l : List α} {a : Option Addr} (h : Arr S sz E w l a) (hl : 0 < l.length) :
 ∃ b o, a = some ⟨b, o, none⟩ ∧ S b ∧ ∀ i x, l[i]? = some x → E w b (o + i * sz) x := by
 rcases h with h | h
 · subst h; simp at hl
 · exact h
def TB (w : World) (b : Nat) (vs : List Value) (T : TypeId) : Prop := w.heap[b]? = some (.cells vs.toArray T (0, 0))
theorem TB.blk {w : World} {b : Nat} {vs : List Value} {T : TypeId} (h : TB w b vs T) : Blk w b vs := ⟨T, h⟩
theorem TB.ext {w w' : World} {b : Nat} {vs : List Value} {T : TypeId} (h : TB w b vs T) (e : Ext w w') : TB w' b vs T := (e.block h.blk.lt).trans h
theorem TB.set {w : World} {b i : Nat} {vs : List Value} {T : TypeId} (h : TB w b vs T) (v : Value) : TB (w.setCell ⟨b, i, none⟩ v) b (vs.set i v) T := by
 have h' : w.heap[b]? = some (.cells vs.toArray T (0, 0)) := h
 unfold TB
 simp [World.setCell, Array.getElem?_modify, h']
section typed
variable {P : Program} {n : Nat} {ops : Array Oper} {Q : Exit → Act → World → Prop} {rest : List Oper} {l : Sl} {w : World} {tab : Tab}
 {d : Nat} {ty : TypeId} {pos : String} {after : Array Edge}
def NewAtT (w : World) (vs : List Value) (T : TypeId) : Option Value → World → Prop
 | some v, w1 => ∃ b, v = .pointer (some ⟨b, 0, none⟩) ∧ New w w1 b vs ∧ TB w1 b vs T
 | none, _ => False
end typed
end Bk
namespace Bk
open Go Go.RowKit
theorem Fr.of_grown {w w' : World} {row : Option Nat} (h : w.grownBy w' row) : Fr (fun k => some k = row) w w' := ⟨h.os, h.tape, h.output, h.size, fun k hk hs => h.block k hk hs⟩
abbrev Own (w : World) (b : Nat) (e : TypeId) (sz : Nat) (v : Value) (n : Nat) (cs : List Value) : Prop := w.ownsRow b e sz v n cs
theorem Own.nil {w : World} {b e sz : Nat} : Own w b e sz (.slice none 0 0) 0 [] := ⟨by simp, Or.inl ⟨rfl, rfl⟩⟩
theorem Own.ext {w w' : World} {b e sz n : Nat} {v : Value} {cs : List Value} (h : Own w b e sz v n cs) (x : Ext w w') : Own w' b e sz v n cs := by
 refine h.kept (row := none) ⟨Below.os x, Below.tape x, Below.output x, Below.size x, fun k hk _ => x.block hk⟩ ?_
 cases hv : v.ownBlock <;> simp
theorem Own.blk {w : World} {b e sz n : Nat} {v : Value} {cs : List Value} (h : Own w b e sz v n cs) {k : Nat} (hk : v.ownBlock = some k) : b ≤ k ∧ k < w.heap.size := by
 obtain ⟨-, ⟨rfl, -⟩ | ⟨g, cap, cur, rfl, hg, hh, -⟩⟩ := h
 · simp [Value.ownBlock] at hk
 · simp [Value.ownBlock] at hk
   subst hk
   refine ⟨hg, ?_⟩
   rcases Nat.lt_or_ge g w.heap.size with h' | h'
   · exact h'
   · rw [Array.getElem?_eq_none h'] at hh; cases hh
theorem Own.fr {S : Nat → Prop} {w w' : World} {b e sz n : Nat} {v : Value} {cs : List Value} (h : Own w b e sz v n cs) (x : Fr S w w') (hs : ∀ k, v.ownBlock = some k → ¬ S k) : Own w' b e sz v n cs := by
 have hb : ∀ k, v.ownBlock = some k → b ≤ k ∧ k < w.heap.size := fun k hk => h.blk hk
 obtain ⟨h1, h2 | ⟨g, cap, cur, rfl, hg, hh, h3⟩⟩ := h
 · exact ⟨h1, Or.inl h2⟩
 · obtain ⟨-, hlt⟩ := hb g rfl
   exact ⟨h1, Or.inr ⟨g, cap, cur, rfl, hg, by rw [x.block g hlt (hs g rfl)]; exact hh, h3⟩⟩
theorem Own.row {w : World} {b e sz n : Nat} {v : Value} {cs : List Value} (h : Own w b e sz v n cs) : (v = .slice none 0 0 ∧ n = 0 ∧ cs = []) ∨ ∃ g cap, v = .slice (some ⟨g, 0, none⟩) n cap ∧ b ≤ g ∧ v.ownBlock = some g ∧ Row w ⟨g, 0, none⟩ cs := by
 obtain ⟨h1, ⟨rfl, rfl⟩ | ⟨g, cap, cur, rfl, hg, hh, -, -, -, h3⟩⟩ := h
 · exact Or.inl ⟨rfl, rfl, by simpa using h1⟩
 · refine Or.inr ⟨g, cap, rfl, hg, rfl, fun i u hi => ?_⟩
   have e : (⟨g, 0, none⟩ : Addr).add i = ⟨g, i, none⟩ := by unfold Addr.add; by_cases h0 : i = 0 <;> simp [h0]
   rw [e]
   rw [← h3] at hi
   have hi' : cur.toList[i]? = some u := by
    rw [List.getElem?_take] at hi
    split at hi
    · exact hi
    · cases hi
   simpa [World.cell?, hh] using hi'
def Grew (w : World) (b : Nat) (e : TypeId) (sz : Nat) (v : Value) (n : Nat) (cs : List Value) : Option Value → World → Prop
 | some v', w' => Own w' b e sz v' n cs ∧ Fr (fun k => v.ownBlock = some k) w w' ∧ ∃ g cap, v' = .slice (some ⟨g, 0, none⟩) n cap ∧ (v.ownBlock = some g ∨ w.heap.size ≤ g)
 | none, _ => False
def bytesOk (P : Program) (e : TypeId) : Bool := match P.info? e with
 | some i => Nat.ble i.bytes 1000
 | none => false
theorem one_iff (v : Value) : Value.one v = v.oneCell' := by cases v <;> rfl
section app
variable {P : Program} {n : Nat} {l : Sl} {w : World} {tab : Tab} {zt : ZTab} {ty : TypeId}
theorem does_append {x y : Operand} {t e sz1 sz b k m cap : Nat} {sE : Sk} {zs : List Value} {v : Value} {cs us : List Value} {p : Addr} (T : TabOk P tab) (Z : ZTabOk P zt) (ht : lookT tab t = some (.slice e, sz1)) (hE : lookT tab e = some (sE, sz)) (hz : lookZ zt e = some zs) (hzl : zs.length = sz)
 (hby : bytesOk P e = true) (hsz : Nat.blt 0 sz = true) (hx : ev l x = some v) (hy : ev l y = some (.slice (some p) m cap)) (hown : Own w b e sz v k cs) (hr : Row w p us) (hul : us.length = m * sz) (hu : us.all Value.one = true) (hkm : k + m ≤ 100000000000) (hm0 : 0 < k + m) (hb : b ≤ w.heap.size) :
 Does P n l (.call ⟨.builtin .append, #[x, y], #[t, t]⟩) ty w (Grew w b e sz v (k + m) (cs ++ us)) := by
 unfold Does
 intro a dst pos after g next Q ha hn _
 obtain ⟨i, v0, z1, z2, z3⟩ := lookZ_ok Z hz
 obtain ⟨i', hi', hs'⟩ := (T _ _ _ hE).info
 rw [z1] at hi'
 obtain rfl := Option.some.inj hi'
 have hbb : i.bytes ≤ 1000 := by
  unfold bytesOk at hby
  rw [z1] at hby
  exact Nat.le_of_ble_eq_true hby
 have hzs : v0.cells.size = sz := by rw [z3]; simpa using hzl
 have hsz' : 0 < sz := Nat.le_of_ble_eq_true hsz
 have hbytes : (k + m) * i.bytes ≤ 140737488355328 := by have := Nat.mul_le_mul hkm hbb; omega
 have hnews : ∀ j u, us[j]? = some u → w.cell? (p.add j) = some u := fun j u hj => hr j u hj
 have h1c : ∀ u ∈ us, u.oneCell' = true := fun u hm => by rw [← one_iff]; exact List.all_eq_true.1 hu u hm
 have hu' : P.underlying t = some (.slice e) := (T _ _ _ ht).under
 obtain ⟨v', w', hrun, h1, h2, h3⟩ := run_append_own (P := P) w b t ty e i v0 sz i.bytes hu' z1 z2 hs' rfl hzs hsz' v k cs hown p m cap us hul hnews h1c (by unfold maxLen; omega) hbytes hb
 have hwhere : ∃ g cap', v' = .slice (some ⟨g, 0, none⟩) (k + m) cap' ∧ (v.ownBlock = some g ∨ w.heap.size ≤ g) := by
  subst hs'
  rcases hown.2 with ⟨rfl, rfl⟩ | ⟨g, cap', cur, rfl, hbg, hg, hnc, hcm, hcs, htake⟩
  · by_cases hm : m = 0
    · omega
    · have hr' := run_append_nil (P := P) w t ty e i v0 hu' z1 z2 p m cap us hul hnews (by omega) (by omega) (by have hb := hbytes; simp only [Nat.zero_add] at hb; omega)
      rw [hr'] at hrun
      simp only [Result.ok.injEq] at hrun
      exact ⟨w.heap.size, _, by rw [← hrun.1, Nat.zero_add], Or.inr (Nat.le_refl _)⟩
  · by_cases hroom : k + m ≤ cap'
    · have hfit : k * i.size + us.length ≤ cur.size := by rw [hul, hcs, ← Nat.add_mul]; exact Nat.mul_le_mul_right _ hroom
      have hr' := run_append_room (P := P) w t ty e i hu' z1 g k cap' cur hg p m cap us hul hnews h1c hroom hfit
      rw [hr'] at hrun
      simp only [Result.ok.injEq] at hrun
      exact ⟨g, _, hrun.1.symm, Or.inl rfl⟩
    · have holds : ∀ j u, cs[j]? = some u → w.cell? ((⟨g, 0, none⟩ : Addr).add j) = some u := hown.cells (g := g) rfl
      have hr' := run_append_grow (P := P) w t ty e i v0 hu' z1 z2 ⟨g, 0, none⟩ k cap' cs hown.1 holds p m cap us hul hnews (by omega) (by omega) (growslice_fits (by omega) hbytes)
      rw [hr'] at hrun
      simp only [Result.ok.injEq] at hrun
      exact ⟨w.heap.size, _, hrun.1.symm, Or.inr (Nat.le_refl _)⟩
 have e1 : (execOp a.eval ⟨dst, .call ⟨.builtin .append, #[x, y], #[t, t]⟩, ty, pos, after, g⟩).run P w = .ok (.value v') w' := by
  simp only [execOp, resolve, invoke, builtin, Sem.run_bind, Sem.run_pure, Result.andThen_ok, List.map_toArray, List.map_cons, List.map_nil, ha.ev hx, ha.ev hy, hrun]
 unfold Oper.wp
 rw [e1]
 exact hn v' w' ⟨h1, ⟨h2.os, h2.tape, h2.output, h2.size, fun j hj hs => h2.block j hj (fun e => hs e.symm)⟩, hwhere⟩
end app
def entriesAre (es : List MapEntry) (kvs : List (List UInt8 × Value)) : Prop := es.map (fun e => (e.key, e.val)) = kvs.map (fun p => (str p.1, p.2))
def MapIs (w : World) (r : Nat) (kvs : List (List UInt8 × Value)) : Prop := ∃ es clock, w.heap[r]? = some (.map es clock) ∧ entriesAre es.toList kvs
def getS : List (List UInt8 × Value) → List UInt8 → Option Value
 | [], _ => none
 | p :: r, k => if k = p.1 then some p.2 else getS r k
def setS : List (List UInt8 × Value) → List UInt8 → Value → List (List UInt8 × Value)
 | [], k, v => [(k, v)]
 | p :: r, k, v => if k = p.1 then (p.1, v) :: r else p :: setS r k v
theorem MapIs.lt {w : World} {r : Nat} {kvs : List (List UInt8 × Value)} (h : MapIs w r kvs) : r < w.heap.size := by
 obtain ⟨es, c, h, -⟩ := h
 rcases Nat.lt_or_ge r w.heap.size with h' | h'
 · exact h'
 · rw [Array.getElem?_eq_none h'] at h; cases h
theorem MapIs.ext {w w' : World} {r : Nat} {kvs : List (List UInt8 × Value)} (h : MapIs w r kvs) (x : Ext w w') : MapIs w' r kvs := by
 have hl := h.lt
 obtain ⟨es, c, h, e⟩ := h
 exact ⟨es, c, by rw [x.block hl]; exact h, e⟩
theorem MapIs.fr {S : Nat → Prop} {w w' : World} {r : Nat} {kvs : List (List UInt8 × Value)} (h : MapIs w r kvs) (x : Fr S w w') (hs : ¬ S r) : MapIs w' r kvs := by
 have hl := h.lt
 obtain ⟨es, c, h, e⟩ := h
 exact ⟨es, c, by rw [x.block r hl hs]; exact h, e⟩
theorem ba_beq' (b : ByteArray) (x : List UInt8) : (b == (⟨x.toArray⟩ : ByteArray)) = (b.data.toList == x) := by
 show (b.data == x.toArray) = _
 rw [Bool.eq_iff_iff]; simp
 constructor
 · intro h; rw [h]
 · intro h; rw [← h]
theorem findNow_str : ∀ (es : List MapEntry) (kvs : List (List UInt8 × Value)) (k : List UInt8) (i : Nat), entriesAre es kvs →
 ∃ o, Instr.findNow .string (str k) es i = some o ∧ (o.map (·.2) = getS kvs k) ∧ ∀ j v, o = some (j, v) → i ≤ j ∧ ∃ e, es[j - i]? = some e ∧ e.key = str k ∧ ∀ v', entriesAre (es.set (j - i) { e with key := str k, val := v' }) (setS kvs k v')
 | [], [], k, i, _ => ⟨none, rfl, rfl, fun _ _ h => by cases h⟩
 | [], _ :: _, _, _, h => by simp [entriesAre] at h
 | _ :: _, [], _, _, h => by simp [entriesAre] at h
 | e :: es, (k', v') :: kvs, k, i, h => by
  simp only [entriesAre, List.map_cons, List.cons.injEq, Prod.mk.injEq] at h
  obtain ⟨⟨hk, hv⟩, hr⟩ := h
  have hs : Instr.sameNow .string (str k) e.key = some (decide (k = k')) := by
   rw [hk]
   simp only [Instr.sameNow]
   rw [ba_beq']
   simp [beq_dec]
  by_cases hkk : k = k'
  · subst hkk
    refine ⟨some (i, e.val), by simp [Instr.findNow, hs], by simp [getS, hv], fun j v h => ?_⟩
    simp only [Option.some.injEq, Prod.mk.injEq] at h
    obtain ⟨rfl, -⟩ := h
    refine ⟨Nat.le_refl _, e, by simp, hk, fun v' => ?_⟩
    simp [entriesAre, setS, hr]
  · obtain ⟨o, h1, h2, h3⟩ := findNow_str es kvs k (i + 1) hr
    refine ⟨o, by simp [Instr.findNow, hs, hkk, h1], by simp [getS, hkk, h2], fun j v h => ?_⟩
    obtain ⟨g1, e', g2, g3, g4⟩ := h3 j v h
    have hj : j - i = (j - (i + 1)) + 1 := by omega
    refine ⟨by omega, e', by rw [hj]; simpa using g2, g3, fun v' => ?_⟩
    rw [hj]
    have := g4 v'
    simp only [entriesAre] at this ⊢
    simp [setS, hkk, hk, hv, this]
section maps
variable {P : Program} {n : Nat} {l : Sl} {w : World} {tab : Tab} {zt : ZTab} {ty : TypeId}
theorem run_findKey {kt : Nat} (hk : P.underlying kt = some .string) {es : List MapEntry} {kvs : List (List UInt8 × Value)} {k : List UInt8} (h : entriesAre es kvs) (w : World) :
 ∃ o, (Instr.findKey kt (str k) es).run P w = .ok o w ∧ (o.map (·.2) = getS kvs k) ∧ ∀ j v, o = some (j, v) → ∃ e, es[j]? = some e ∧ e.key = str k ∧ ∀ v', entriesAre (es.set j { e with key := str k, val := v' }) (setS kvs k v') := by
 obtain ⟨o, h1, h2, h3⟩ := findNow_str es kvs k 0 h
 refine ⟨o, by simp [Instr.findKey, run_underlying hk, Result.andThen, h1], h2, fun j v hj => ?_⟩
 obtain ⟨-, e, g2, g3, g4⟩ := h3 j v hj
 exact ⟨e, by simpa using g2, g3, by simpa using g4⟩
theorem run_checkKey {kt : Nat} (hk : P.underlying kt = some .string) (b : Bool) (k : List UInt8) (w : World) : (Instr.checkKey b 10000 kt (str k)).run P w = .ok () w := by
 rw [show (10000 : Nat) = 9999 + 1 from rfl, Instr.checkKey]
 simp [run_underlying hk, Result.andThen]
def lookVal (o : Option Value) (z : Value) (c : Bool) : Value := if c then .tuple #[o.getD z, .bool o.isSome] else o.getD z
theorem pur_lookup {S : World → Prop} {x y : Operand} {t kt e sz1 sz2 r : Nat} {c : Bool} {k : List UInt8} {z : Value} {kvs : List (List UInt8 × Value)} (T : TabOk P tab) (ht : lookT tab t = some (.map kt e, sz1)) (hkt : lookT tab kt = some (.str, sz2)) (hz : ((P.info? e).bind (·.zero)) = some z)
 (hx : ev l x = some (.map (some r))) (hy : ev l y = some (str k)) (hm : ∀ w, S w → MapIs w r kvs) : Pur P n l S (.lookup t x y c) ty (lookVal (getS kvs k) z c) := by
 unfold Pur
 intro a w dst pos after g ha hS
 have hu : P.underlying t = some (.map kt e) := (T _ _ _ ht).under
 have hk : P.underlying kt = some .string := (T _ _ _ hkt).under
 obtain ⟨es, clock, hh, he⟩ := hm w hS
 obtain ⟨i0, z1, z2⟩ : ∃ i, P.info? e = some i ∧ i.zero = some z := by
  cases hi : P.info? e with
  | none => rw [hi] at hz; cases hz
  | some i => exact ⟨i, rfl, by simpa [hi] using hz⟩
 obtain ⟨o, h1, h2, -⟩ := run_findKey hk (k := k) he w
 have hzv : (zeroValue e).run P w = .ok z w := by simp [zeroValue, typeInfo, program, Sem.run, z1, z2, bind, Sem.bind, pure]
 have e1 : (Instr.lookup t (.map (some r)) (str k) c).run P w = .ok (lookVal (getS kvs k) z c) w := by
  have hg : (getObj r).run P w = .ok (.map es clock) w := by simp [getObj, Sem.run, hh]
  simp only [Instr.lookup, Sem.run_bind, run_underlying hu, Result.andThen, hg, Sem.run_pure, run_checkKey hk, h1]
  rw [← h2]
  cases o with
  | none => simp [hzv, lookVal]
  | some q => simp [lookVal]
 simp only [execOp, ha.ev hx, ha.ev hy, Sem.run_bind, e1, Result.andThen, Sem.run_pure]
def MapNew (w : World) : Option Value → World → Prop
 | some v, w1 => ∃ r, v = .map (some r) ∧ r = w.heap.size ∧ MapIs w1 r [] ∧ Ext w w1 ∧ w1.heap.size = r + 1
 | none, _ => False
theorem does_makeMap {t : Nat} : Does P n l (.makeMap t none) ty w (MapNew w) := by
 unfold Does
 intro a dst pos after g next Q ha hn _
 have e1 : (execOp a.eval ⟨dst, .makeMap t none, ty, pos, after, g⟩).run P w = .ok (.value (.map (some w.heap.size))) (w.alloc (.map #[] 0)) := by
  simp [execOp, Instr.makeMap, newObj, Sem.run, bind, Sem.bind, pure]
 unfold Oper.wp
 rw [e1]
 exact hn _ _ ⟨_, rfl, rfl, ⟨#[], 0, by show (w.heap.push _)[w.heap.size]? = _; simp, by simp [entriesAre]⟩, (Ext.refl w).alloc _, by show (w.heap.push _).size = _; simp⟩
def MapPut (w : World) (r : Nat) (kvs : List (List UInt8 × Value)) : Option Value → World → Prop
 | none, w1 => MapIs w1 r kvs ∧ Fr (· = r) w w1 ∧ w1.heap.size = w.heap.size
 | some _, _ => False
theorem setObj_put (w : World) (r : Nat) (o o' : Obj) (h : w.heap[r]? = some o) : ({ w with heap := w.heap.setIfInBounds r o' } : World).heap[r]? = some o' ∧ Fr (· = r) w { w with heap := w.heap.setIfInBounds r o' } := by
 have hlt : r < w.heap.size := (Array.getElem?_eq_some_iff.1 h).1
 refine ⟨by simp [hlt], rfl, rfl, rfl, by simp, fun k hk hs => ?_⟩
 exact Array.getElem?_setIfInBounds_ne (fun e => hs e.symm)
theorem run_mapUpdate {t kt e sz1 sz2 r : Nat} {k : List UInt8} {v : Value} {kvs : List (List UInt8 × Value)} (T : TabOk P tab) (ht : lookT tab t = some (.map kt e, sz1)) (hkt : lookT tab kt = some (.str, sz2)) (hm : MapIs w r kvs) :
 ∃ w1, (Instr.mapUpdate t (.map (some r)) (str k) v).run P w = .ok () w1 ∧ MapIs w1 r (setS kvs k v) ∧ Fr (· = r) w w1 ∧ w1.heap.size = w.heap.size := by
 have hu : P.underlying t = some (.map kt e) := (T _ _ _ ht).under
 have hk : P.underlying kt = some .string := (T _ _ _ hkt).under
 obtain ⟨es, clock, hh, he⟩ := hm
 obtain ⟨o, h1, h2, h3⟩ := run_findKey hk (k := k) he w
 have hg : (getObj r).run P w = .ok (.map es clock) w := by simp [getObj, Sem.run, hh]
 have hset : ∀ ob, (setObj r ob).run P w = .ok () { w with heap := w.heap.setIfInBounds r ob } := fun ob => by simp [setObj, Sem.run, hh]
 cases o with
 | none =>
  have hgs : getS kvs k = none := by simpa using h2.symm
  obtain ⟨p1, p2⟩ := setObj_put w r _ (.map (es.push { key := str k, val := v, born := clock }) (clock + 1)) hh
  refine ⟨_, ?_, ⟨_, _, p1, ?_⟩, p2, by simp⟩
  · simp only [Instr.mapUpdate, Sem.run_bind, run_underlying hu, Result.andThen, hg, run_checkKey hk, h1, hset]
  · have key : ∀ (es : List MapEntry) (kvs : List (List UInt8 × Value)), entriesAre es kvs → getS kvs k = none → entriesAre (es ++ [{ key := str k, val := v, born := clock }]) (setS kvs k v) := by
     intro es kvs
     induction kvs generalizing es with
     | nil => intro h _; cases es with | nil => simp [entriesAre, setS] | cons _ _ => simp [entriesAre] at h
     | cons p r ih =>
      intro h hn
      cases es with
      | nil => simp [entriesAre] at h
      | cons e es =>
       simp only [getS] at hn
       split at hn
       · cases hn
       · rename_i hne
         simp only [entriesAre, List.map_cons, List.cons.injEq] at h
         have := ih es h.2 hn
         simp only [entriesAre] at this ⊢
         simp [setS, hne, h.1, this]
    simpa using key es.toList kvs he hgs
 | some q =>
  obtain ⟨j, u⟩ := q
  obtain ⟨en, g1, g2, g3⟩ := h3 j u rfl
  have hkey : (Instr.keyThatStays (((es[j]?).map (·.key)).getD (str k)) (str k)).run P w = .ok (str k) w := by
   have : es[j]? = some en := by simpa using g1
   rw [this]
   have hb : ((⟨k.toArray⟩ : ByteArray) == ⟨k.toArray⟩) = true := by rw [ba_beq']; simp
   simp [Instr.keyThatStays, g2, Instr.sameBits, hb]
  obtain ⟨p1, p2⟩ := setObj_put w r _ (.map (es.modify j fun e => { e with key := str k, val := v }) clock) hh
  refine ⟨_, ?_, ⟨_, _, p1, ?_⟩, p2, by simp⟩
  · simp only [Instr.mapUpdate, Sem.run_bind, run_underlying hu, Result.andThen, hg, run_checkKey hk, h1, hkey, hset]
  · have := g3 v
    have e : (es.modify j fun e => { e with key := str k, val := v }).toList = es.toList.set j { en with key := str k, val := v } := by
     apply List.ext_getElem?
     intro i
     have gj : es[j]? = some en := by simpa using g1
     rw [Array.getElem?_toList, Array.getElem?_modify, List.getElem?_set]
     by_cases hij : j = i
     · subst hij
       have hlt : j < es.size := (Array.getElem?_eq_some_iff.1 gj).1
       rw [if_pos rfl, if_pos rfl, gj]; simp [hlt]
     · simp [hij]
    rw [e]; exact this
end maps
section strs
variable {P : Program} {n : Nat} {l : Sl} {S : World → Prop} {tab : Tab} {ty : TypeId} {x y z : Operand} {t t' sz : Nat} {a : List UInt8}
theorem ba_size (a : List UInt8) : (⟨a.toArray⟩ : ByteArray).size = a.length := by simp [ByteArray.size]
theorem ba_extract (a : List UInt8) (i j : Nat) : (⟨a.toArray⟩ : ByteArray).extract i j = ⟨((a.take j).drop i).toArray⟩ := by
 apply ByteArray.ext
 simp [ByteArray.data_extract, List.drop_take]
theorem run_sliceBound {k : IntKind} {i : Int} {m : Nat} {code : BoundsCode} (h0 : 0 ≤ i) (h1 : i ≤ m) (w : World) : (Instr.sliceBound (.int k i) m code).run P w = .ok i.toNat w := by
 simp [Instr.sliceBound, asIntOf, h0, h1]
theorem pur_sfrom {k : IntKind} {i : Int} (T : TabOk P tab) (ht : lookT tab t = some (.str, sz)) (hx : ev l x = some (str a)) (hy : ev l y = some (.int k i)) (h0 : 0 ≤ i) (h1 : i ≤ a.length) : Pur P n l S (.slice t x (some y) none none) ty (str (a.drop i.toNat)) := by
 unfold Pur
 intro b w dst pos after g ha _
 have hu : P.underlying t = some .string := (T _ _ _ ht).under
 have e : (Instr.sliceAt t (str a) (some (.int k i)) none none).run P w = .ok (str (a.drop i.toNat)) w := by
  have e2 := ba_extract a i.toNat a.length
  simp only [Instr.sliceAt, Sem.run_bind, run_underlying hu, Result.andThen, Instr.slice, Option.isSome_none, Bool.false_eq_true, if_false, Instr.sliceBounds, Sem.run_pure, ba_size, run_sliceBound h0 h1]
  simp [e2]
 simp [execOp, ha.ev hx, ha.ev hy, e]
theorem pur_spart {k k' : IntKind} {i j : Int} (T : TabOk P tab) (ht : lookT tab t = some (.str, sz)) (hx : ev l x = some (str a)) (hy : ev l y = some (.int k i)) (hz : ev l z = some (.int k' j)) (h0 : 0 ≤ i) (h1 : i ≤ j) (h2 : j ≤ a.length) : Pur P n l S (.slice t x (some y) (some z) none) ty (str ((a.take j.toNat).drop i.toNat)) := by
 unfold Pur
 intro b w dst pos after g ha _
 have hu : P.underlying t = some .string := (T _ _ _ ht).under
 have e : (Instr.sliceAt t (str a) (some (.int k i)) (some (.int k' j)) none).run P w = .ok (str ((a.take j.toNat).drop i.toNat)) w := by
  have e2 := ba_extract a i.toNat j.toNat
  simp only [Instr.sliceAt, Sem.run_bind, run_underlying hu, Result.andThen, Instr.slice, Option.isSome_none, Bool.false_eq_true, if_false, Instr.sliceBounds, Sem.run_pure, ba_size, run_sliceBound (show 0 ≤ j by omega) h2]
  rw [run_sliceBound h0 (by omega)]
  simp [e2]
 simp [execOp, ha.ev hx, ha.ev hy, ha.ev hz, e]
end strs
theorem u8_wrap (i : Int) (h0 : 0 ≤ i) (h1 : i ≤ 255) : IntKind.u8.wrap i = i := by rw [IntKind.wrap]; simp [IntKind.signed, IntKind.bits]; omega
end Bk
namespace Bk
open Go Go.RowKit
theorem Ext.ext {a b c : World} (h : Ext a b) (x : Ext b c) : Ext a c := h.trans x
theorem Fr.ext {S : Nat → Prop} {a b c : World} (h : Fr S a b) (x : Ext b c) : Fr S a c := h.trans (.of_ext x)
theorem Ext.fr {S : Nat → Prop} {a b c : World} (h : Ext a b) (x : Fr S b c) (hs : ∀ k, S k → a.heap.size ≤ k) : Ext a c :=
 ⟨x.os.trans (Below.os h), x.tape.trans (Below.tape h), x.output.trans (Below.output h), Nat.le_trans h.size x.size,
  fun k hk => (x.block k (Nat.lt_of_lt_of_le hk h.size) (fun hS => by have := hs k hS; omega)).trans (h.block hk)⟩
theorem Fr.fr {S T : Nat → Prop} {a b c : World} (h : Fr T a b) (x : Fr S b c) (hs : ∀ k, S k → T k ∨ a.heap.size ≤ k) : Fr T a c :=
 ⟨x.os.trans h.os, x.tape.trans h.tape, x.output.trans h.output, Nat.le_trans h.size x.size,
  fun k hk hT => (x.block k (Nat.lt_of_lt_of_le hk h.size) (fun hS => by rcases hs k hS with h | h; exact hT h; omega)).trans (h.block k hk hT)⟩
theorem TB.fr {S : Nat → Prop} {w w' : World} {b : Nat} {vs : List Value} {T : TypeId} (h : TB w b vs T) (x : Fr S w w') (hs : ¬ S b) : TB w' b vs T := (x.block b h.blk.lt hs).trans h
theorem Fr.weaken {S T : Nat → Prop} {w w' : World} (h : Fr S w w') (k : ∀ b, S b → T b) : Fr T w w' := ⟨h.os, h.tape, h.output, h.size, fun b hb hT => h.block b hb (fun hS => hT (k b hS))⟩
section code
variable {P : Program} {n : Nat} {Q : Exit → Act → World → Prop} {l : Sl} {w : World} {c : Operand} {x y : Code}
theorem cw_nt {q : Bool} (hc : ev l c = some (.bool (!q))) (hq : q = false) (h : CW P n x Q l w) : CW P n (.cond c x y) Q l w := cw_bt hc (by simp [hq]) h
theorem cw_nf {q : Bool} (hc : ev l c = some (.bool (!q))) (hq : q = true) (h : CW P n y Q l w) : CW P n (.cond c x y) Q l w := cw_bf hc (by simp [hq]) h
theorem cw_ncond {q : Bool} (hc : ev l c = some (.bool (!q))) (ht : q = false → CW P n x Q l w) (hf : q = true → CW P n y Q l w) : CW P n (.cond c x y) Q l w :=
 cw_cond hc (fun e => ht (by simpa using e)) (fun e => hf (by simpa using e))
variable {ops : Array Oper} {rest : List Oper} {tab : Tab} {d : Nat} {ty : TypeId} {pos : String} {after : Array Edge}
theorem lw_load_b {a : Operand} {t sz b o : Nat} {s : Sk} {vs : List Value} {v : Value} (T : TabOk P tab) (ht : lookT tab t = some (s, sz)) (hs : s.agg = false) (hx : ev l a = some (.pointer (some ⟨b, o, none⟩)))
 (hb : Blk w b vs) (hv : vs[o]? = some v) (hd : Nat.blt d n = true) (k : LW P n ops Q rest ((d, v) :: l) w) : LW P n ops Q (⟨some d, .load t a, ty, pos, after, none⟩ :: rest) l w :=
 lw_pure (pur_load T ht hs hx (fun wz hz => by subst hz; exact hb.cell hv)) hd k
theorem lw_load_r0 {a : Operand} {t sz b o : Nat} {s : Sk} {vs : List Value} {v : Value} (T : TabOk P tab) (ht : lookT tab t = some (s, sz)) (hs : s.agg = false) (hx : ev l a = some (.pointer (some ⟨b, o, none⟩)))
 (hb : Row w ⟨b, o, none⟩ vs) (hv : vs[0]? = some v) (hd : Nat.blt d n = true) (k : LW P n ops Q rest ((d, v) :: l) w) : LW P n ops Q (⟨some d, .load t a, ty, pos, after, none⟩ :: rest) l w :=
 lw_pure (pur_load T ht hs hx (fun wz hz => by subst hz; exact hb.at0 hv)) hd k
theorem lw_loads_b {a : Operand} {t sz b o : Nat} {s : Sk} {vs : List Value} (T : TabOk P tab) (ht : lookT tab t = some (s, sz)) (hs : s.agg = true) (hx : ev l a = some (.pointer (some ⟨b, o, none⟩)))
 (hb : Blk w b vs) (hl : Nat.ble (o + sz) vs.length = true) (hd : Nat.blt d n = true) (k : LW P n ops Q rest ((d, .agg ((vs.drop o).take sz).toArray) :: l) w) : LW P n ops Q (⟨some d, .load t a, ty, pos, after, none⟩ :: rest) l w :=
 lw_pure (pur_loads_blk T ht hs hx (fun wz hz => by subst hz; exact hb) hl) hd k
theorem lw_loads_r0 {a : Operand} {t sz b o : Nat} {s : Sk} {vs : List Value} (T : TabOk P tab) (ht : lookT tab t = some (s, sz)) (hs : s.agg = true) (hx : ev l a = some (.pointer (some ⟨b, o, none⟩)))
 (hb : Row w ⟨b, o, none⟩ vs) (hl : vs.length = sz) (hd : Nat.blt d n = true) (k : LW P n ops Q rest ((d, .agg vs.toArray) :: l) w) : LW P n ops Q (⟨some d, .load t a, ty, pos, after, none⟩ :: rest) l w :=
 lw_pure (pur_loads' T ht hs hx (fun wz hz => by subst hz; exact hb) hl) hd k
theorem qw_ret3 {fn : Func} {R : Ending → World → Prop} {t u s : Nat} {v x z : Value} (h : fn.results = #[.tmp t, .tmp u, .tmp s]) (hv : look l t = some v) (hx : look l u = some x) (hz : look l s = some z) (hR : R (.returned (.tuple #[v, x, z])) w) : QW n (bodyPost P fn R) .ret l w := by
 unfold QW
 exact fun a ha => ⟨ha.defers, .tuple #[a.tmps.getD t undef, a.tmps.getD u undef, a.tmps.getD s undef], by simp [results, h], by rw [ha.has t v hv, ha.has u x hx, ha.has s z hz]; exact hR⟩
end code
end Bk
namespace Bk
open Go Go.RowKit
def waits (ops : Array Oper) (j i : Nat) : Bool := match ops[j]? with
 | none => false
 | some o => o.after.any fun e => Region.binds .any e && Nat.beq e.on i
def DC (ops : Array Oper) (listed : Array Bool) : Prop := ∀ k o, ops[k]? = some o → listed.getD k false = true → ∀ e ∈ o.after, Region.binds .any e = true → listed.getD e.on false = true
theorem waits_spec {ops : Array Oper} {j i : Nat} (h : waits ops j i = true) : ∃ o e, ops[j]? = some o ∧ e ∈ o.after ∧ Region.binds .any e = true ∧ e.on = i := by
 unfold waits at h
 split at h
 · cases h
 · rename_i o ho
   obtain ⟨e, he, hb⟩ := Array.any_eq_true'.1 h
   simp only [Bool.and_eq_true] at hb
   exact ⟨o, e, ho, he, hb.1, Nat.eq_of_beq_eq_true hb.2⟩
def Forced (ops : Array Oper) (K i : Nat) : Prop := ∀ (listed : Array Bool) (j : Nat) (o : Oper), DC ops listed → K ≤ j → ops[j]? = some o → (∀ e ∈ o.after, Region.binds .any e = true → listed.getD e.on false = true) → listed.getD i false = true
def lateOk (ops : Array Oper) (K : Nat) : Bool := ((List.range K).all fun i => (List.range' (i + 1) (K - i)).any fun j => waits ops j i) && ((List.range' (K + 1) (ops.size - (K + 1))).all fun j => (List.range' K (j - K)).any fun i => waits ops j i)
theorem lateOk_forced {ops : Array Oper} {K : Nat} (h : lateOk ops K = true) (hK : K < ops.size) : ∀ i, i < K → Forced ops K i := by
 simp only [lateOk, Bool.and_eq_true, List.all_eq_true, List.mem_range, List.any_eq_true, List.mem_range'_1] at h
 obtain ⟨h1, h2⟩ := h
 intro i hi listed j o hdc hj ho hall
 have hKp : ∀ m j o, j ≤ K + m → K ≤ j → ops[j]? = some o → (∀ e ∈ o.after, Region.binds .any e = true → listed.getD e.on false = true) → ∀ oK, ops[K]? = some oK → ∀ e ∈ oK.after, Region.binds .any e = true → listed.getD e.on false = true := by
  intro m
  induction m with
  | zero =>
   intro j o hm hj ho hall oK hoK
   have : j = K := by omega
   subst this
   rw [ho] at hoK
   obtain rfl := Option.some.inj hoK
   exact hall
  | succ m ih =>
   intro j o hm hj ho hall oK hoK
   by_cases hjK : j = K
   · subst hjK
     rw [ho] at hoK
     obtain rfl := Option.some.inj hoK
     exact hall
   · have hjs : j < ops.size := (Array.getElem?_eq_some_iff.1 ho).1
     obtain ⟨i', hi', hw⟩ := h2 j (by omega)
     obtain ⟨oj, e, hoj, he, hb, hon⟩ := waits_spec hw
     rw [ho] at hoj
     obtain rfl := Option.some.inj hoj
     have hl := hall e he hb
     rw [hon] at hl
     have hi's : i' < ops.size := by omega
     exact ih i' ops[i'] (by omega) hi'.1 (Array.getElem?_eq_getElem hi's) (hdc i' _ (Array.getElem?_eq_getElem hi's) hl) oK hoK
 have hK' := hKp (j - K) j o (by omega) hj ho hall ops[K] (Array.getElem?_eq_getElem hK)
 have key : ∀ d i, K - i ≤ d → i < K → listed.getD i false = true := by
  intro d
  induction d with
  | zero => intro i h hi; omega
  | succ d ih =>
   intro i hd hi
   obtain ⟨j', hj', hw⟩ := h1 i hi
   obtain ⟨oj, e, hoj, he, hb, hon⟩ := waits_spec hw
   by_cases hjK : j' = K
   · subst hjK
     rw [Array.getElem?_eq_getElem hK] at hoj
     obtain rfl := Option.some.inj hoj
     have := hK' e he hb
     rwa [hon] at this
   · have hl := ih j' (by omega) (by omega)
     have := hdc j' oj hoj hl e he hb
     rwa [hon] at this
 exact key (K - i) i (Nat.le_refl _) hi
section
variable {P : Program} {ops : Array Oper} {Q : Exit → Act → World → Prop} {S : World → Prop} {K : Nat}
def wpAnyL (P : Program) (ops : Array Oper) (Q : Exit → Act → World → Prop) (S : World → Prop) (K : Nat) : Nat → Array Bool → Act → World → Prop
 | 0, listed, a, w => Region.ready .any ops listed = [] ∧ Q .normal a w
 | fuel + 1, listed, a, w =>
  (Region.ready .any ops listed = [] → Q .normal a w) ∧
  ∀ i ∈ Region.ready .any ops listed, wpOp P ops Q i (fun a' w' => (i < K → S w') ∧ wpAnyL P ops Q S K fuel (listed.setIfInBounds i true) a' w') a w
theorem wpAny_of_L : ∀ (fuel : Nat) (listed : Array Bool) (a : Act) (w : World), wpAnyL P ops Q S K fuel listed a w → wpAny P .any ops Q fuel listed a w
 | 0, _, _, _, h => h
 | fuel + 1, _, _, _, h => ⟨h.1, fun i hi => wpOp_mono (fun a' w' h' => wpAny_of_L fuel _ a' w' h'.2) (h.2 i hi)⟩
theorem DC.set {listed : Array Bool} (h : DC ops listed) {j : Nat} (hj : j ∈ Region.ready .any ops listed) : DC ops (listed.setIfInBounds j true) := by
 obtain ⟨hjun, oj, hoj, hall⟩ := mem_ready.1 hj
 intro k o hk hl e he hb
 have key : listed.getD e.on false = true := by
  by_cases hkj : j = k
  · subst hkj
    rw [hoj] at hk
    obtain rfl := Option.some.inj hk
    exact hall e he hb
  · refine h k o hk ?_ e he hb
    rw [getD_set_ne false hkj] at hl; exact hl
 by_cases hje : j = e.on
 · subst hje
   rcases Nat.lt_or_ge e.on listed.size with h' | h'
   · simp [h']
   · simp [Array.getElem?_eq_none h'] at key
 · rw [getD_set_ne false hje]; exact key
theorem wpAnyL_first {i : Nat} {oi : Oper} {v : Value} (hi : ops[i]? = some oi) (hK : i < K) (hre : Forced ops K i) (hsel : ∀ (j : Nat) (o : Oper) cs b, ops[j]? = some o → o.op ≠ .select cs b)
 (hQ : ∀ c a w, Q (.panic c) (a.put oi.dst v) w → Q (.panic c) a w) :
 ∀ (fuel : Nat) (listed : Array Bool) (a : Act) (w : World), DC ops listed →
  (∀ j oj, ops[j]? = some oj → j ≠ i → listed.getD j true = false → (∀ e ∈ oj.after, Region.binds .any e = true → e.on ≠ i) → oi.apart ops oj = true) →
  i ∈ Region.ready .any ops listed → YieldsIf P ops S oi v a → S w →
  wpAnyL P ops Q S K fuel (listed.setIfInBounds i true) (a.put oi.dst v) w → wpAnyL P ops Q S K (fuel + 1) listed a w := by
 intro fuel
 induction fuel with
 | zero =>
  intro listed a w _ _ hr hy hS H
  refine ⟨fun h => (by rw [h] at hr; cases hr), fun j hj => ?_⟩
  by_cases hji : j = i
  · subst hji; exact hy.wpOp hi hS ⟨fun _ => hS, H⟩
  · have := ready_mono hj hji
    rw [H.1] at this
    cases this
 | succ fuel ih =>
  intro listed a w hdc hfree hr hy hS H
  refine ⟨fun h => (by rw [h] at hr; cases hr), fun j hj => ?_⟩
  by_cases hji : j = i
  · subst hji; exact hy.wpOp hi hS ⟨fun _ => hS, H⟩
  · have h1 := H.2 j (ready_mono hj hji)
    obtain ⟨hjun, oj, hoj, hall⟩ := mem_ready.1 hj
    have hun : ¬ listed.getD i false = true := fun hc => by
     have h0 := (mem_ready.1 hr).1
     rcases Nat.lt_or_ge i listed.size with h' | h'
     · simp [h'] at h0 hc; rw [h0] at hc; cases hc
     · simp [Array.getElem?_eq_none h'] at hc
    have hjK : j < K := by
     rcases Nat.lt_or_ge j K with h | h
     · exact h
     · exact absurd (hre listed j oj hdc h hoj hall) hun
    have hnot : ∀ e ∈ oj.after, Region.binds .any e = true → e.on ≠ i := fun e he hb heq => hun (heq ▸ hall e he hb)
    have h2 := wpOp_putIf hoj (hfree j oj hoj hji hjun hnot) (fun cs b => hsel i oi cs b hi) (fun cs b => hsel j oj cs b hoj) hQ hy h1
    have hfree' : ∀ k ok, ops[k]? = some ok → k ≠ i → (listed.setIfInBounds j true).getD k true = false →
     (∀ e ∈ ok.after, Region.binds .any e = true → e.on ≠ i) → oi.apart ops ok = true := fun k ok hk hki hun hno => by
     refine hfree k ok hk hki ?_ hno
     by_cases hjk : j = k
     · subst hjk; exact hjun
     · rw [getD_set_ne true hjk] at hun; exact hun
    refine wpOp_mono (fun a' w' h3 => ⟨fun _ => h3.2.1 hjK, ih (listed.setIfInBounds j true) a' w' (hdc.set hj) hfree' (ready_mono hr (Ne.symm hji)) h3.1 (h3.2.1 hjK) ?_⟩) h2
    rw [Array.setIfInBounds_comm _ _ hji]
    exact h3.2.2
end
inductive Sc where
 | done
 | pure (i : Nat) (r : Sc)
 | fork (i : Nat) (x r : Sc)
 | none
 | tail
def Sc.alts : Sc → List Nat
 | .fork i _ r => i :: r.alts
 | _ => []
def chain (ops : Array Oper) : Nat → Nat → Array Bool → Bool
 | 0, _, listed => (Region.ready .any ops listed).isEmpty
 | f + 1, k, listed => (Region.ready .any ops listed == [k]) && chain ops f (k + 1) (listed.setIfInBounds k true)
def Sc.ok (ops : Array Oper) (K : Nat) : Bool → Sc → Nat → Array Bool → Bool
 | true, .done, _, listed => (Region.ready .any ops listed).isEmpty
 | true, .pure i r, f + 1, listed => Nat.blt i K && (Region.ready .any ops listed).contains i && Region.free .any ops listed i && Sc.ok ops K true r f (listed.setIfInBounds i true)
 | true, .fork i x r, f + 1, listed => (Region.ready .any ops listed).all (fun j => (i :: r.alts).contains j) && (Region.ready .any ops listed).contains i && Sc.ok ops K true x f (listed.setIfInBounds i true) && Sc.ok ops K false r (f + 1) listed
 | true, .tail, f, listed => Nat.beq (f + K) ops.size && chain ops f K listed
 | false, .fork i x r, f + 1, listed => (Region.ready .any ops listed).contains i && Sc.ok ops K true x f (listed.setIfInBounds i true) && Sc.ok ops K false r (f + 1) listed
 | false, .none, _, _ => true
 | _, _, _, _ => false
def HT (P : Program) (ops : Array Oper) (Q : Exit → Act → World → Prop) (S : World → Prop) (K : Nat) : Sc → Act → World → Prop
 | .done, a, w => Q .normal a w
 | .pure i r, a, w => ∃ o v, ops.toList[i]? = some o ∧ YieldsIf P ops S o v a ∧ HT P ops Q S K r (a.put o.dst v) w
 | .fork i x r, a, w => wpOp P ops Q i (fun a' w' => S w' ∧ HT P ops Q S K x a' w') a w ∧ HT P ops Q S K r a w
 | .none, _, _ => True
 | .tail, a, w => wpList P ops Q (ops.toList.drop K) a w
theorem chain_any {P : Program} {ops : Array Oper} {Q : Exit → Act → World → Prop} {S : World → Prop} {K : Nat} : ∀ (f k : Nat) (listed : Array Bool) (a : Act) (w : World), K ≤ k → f + k = ops.size → chain ops f k listed = true → wpList P ops Q (ops.toList.drop k) a w → wpAnyL P ops Q S K f listed a w
 | 0, k, listed, a, w, hk, hf, hc, h => by
  have : ops.toList.drop k = [] := List.drop_eq_nil_of_le (by simp; omega)
  rw [this] at h
  exact ⟨by simpa [chain] using hc, h⟩
 | f + 1, k, listed, a, w, hk, hf, hc, h => by
  simp only [chain, Bool.and_eq_true, beq_iff_eq] at hc
  have hlt : k < ops.toList.length := by simp; omega
  rw [List.drop_eq_getElem_cons hlt] at h
  refine ⟨fun e => absurd (hc.1.symm.trans e) (by simp), fun i hi => ?_⟩
  rw [hc.1] at hi
  simp only [List.mem_singleton] at hi
  subst hi
  have ho : ops[i]? = some ops.toList[i] := by simp
  unfold wpList at h
  unfold wpOp
  rw [ho]
  simp only
  split
  · rename_i hw
    rw [if_pos hw] at h
    rcases h with h | h
    · exact Or.inl (Oper.wp_mono (fun a' w' h' => ⟨fun hlt => by omega, chain_any f (i + 1) _ a' w' (by omega) (by omega) hc.2 h'⟩) h)
    · exact Or.inr h
  · rename_i hw
    rw [if_neg hw] at h
    exact ⟨fun hlt => by omega, chain_any f (i + 1) _ _ w (by omega) (by omega) hc.2 h⟩
theorem HT.any {P : Program} {ops : Array Oper} {Q : Exit → Act → World → Prop} {S : World → Prop} {K : Nat} (hs : Region.noSelect ops = true) (hre : ∀ i, i < K → Forced ops K i) (hQ : PanicOk Q) :
 ∀ (s : Sc) (f : Nat) (listed : Array Bool) (a : Act) (w : World), DC ops listed → S w → HT P ops Q S K s a w →
  (Sc.ok ops K true s f listed = true → wpAnyL P ops Q S K f listed a w) ∧
  (Sc.ok ops K false s f listed = true → ∀ i ∈ s.alts, ∀ f', f = f' + 1 → wpOp P ops Q i (fun a' w' => (i < K → S w') ∧ wpAnyL P ops Q S K f' (listed.setIfInBounds i true) a' w') a w)
 | .done, f, listed, a, w, hd, hS, h => by
  refine ⟨fun hk => ?_, fun hk => by simp [Sc.ok] at hk⟩
  have hr : Region.ready .any ops listed = [] := by simpa [Sc.ok] using hk
  cases f with
  | zero => exact ⟨hr, h⟩
  | succ f => exact ⟨fun _ => h, by rw [hr]; simp⟩
 | .none, f, listed, a, w, hd, hS, h => ⟨fun hk => by simp [Sc.ok] at hk, fun hk => by simp [Sc.alts]⟩
 | .tail, f, listed, a, w, hd, hS, h => ⟨fun hk => by
  simp only [Sc.ok, Bool.and_eq_true] at hk
  exact chain_any f K listed a w (Nat.le_refl _) (Nat.eq_of_beq_eq_true hk.1) hk.2 h, fun hk => by simp [Sc.ok] at hk⟩
 | .pure i r, 0, listed, a, w, hd, hS, h => ⟨fun hk => by simp [Sc.ok] at hk, fun hk => by simp [Sc.ok] at hk⟩
 | .pure i r, f + 1, listed, a, w, hd, hS, h => ⟨fun hk => by
  simp only [Sc.ok, Bool.and_eq_true] at hk
  obtain ⟨o, v, ho, hy, hr⟩ := h
  have hi : ops[i]? = some o := by simpa using ho
  have hir : i ∈ Region.ready .any ops listed := by simpa using hk.1.1.2
  exact wpAnyL_first hi (Nat.le_of_ble_eq_true hk.1.1.1) (hre i (Nat.le_of_ble_eq_true hk.1.1.1)) (Region.noSelect_spec hs) (fun c a w => hQ o.dst v c a w) f listed a w hd (Region.free_spec hi hk.1.2) hir hy hS
   ((HT.any hs hre hQ r f _ _ w (hd.set hir) hS hr).1 hk.2), fun hk => by simp [Sc.ok] at hk⟩
 | .fork i x r, 0, listed, a, w, hd, hS, h => ⟨fun hk => by simp [Sc.ok] at hk, fun hk => by simp [Sc.ok] at hk⟩
 | .fork i x r, f + 1, listed, a, w, hd, hS, h => by
  have key : i ∈ Region.ready .any ops listed → Sc.ok ops K true x f (listed.setIfInBounds i true) = true → wpOp P ops Q i (fun a' w' => (i < K → S w') ∧ wpAnyL P ops Q S K f (listed.setIfInBounds i true) a' w') a w := fun hir hk =>
   wpOp_mono (fun a' w' h' => ⟨fun _ => h'.1, (HT.any hs hre hQ x f _ a' w' (hd.set hir) h'.1 h'.2).1 hk⟩) h.1
  have hr := HT.any hs hre hQ r (f + 1) listed a w hd hS h.2
  refine ⟨fun hk => ?_, fun hk j hj f' hf => ?_⟩
  · simp only [Sc.ok, Bool.and_eq_true] at hk
    obtain ⟨⟨⟨h1, h4⟩, h2⟩, h3⟩ := hk
    refine ⟨fun e => by rw [e] at h4; simp at h4, fun j hj => ?_⟩
    have := List.all_eq_true.1 h1 j hj
    simp only [List.contains_eq_mem, List.mem_cons, decide_eq_true_eq] at this
    rcases this with rfl | hj'
    · exact key hj h2
    · exact hr.2 h3 j hj' f rfl
  · simp only [Sc.ok, Bool.and_eq_true] at hk
    obtain rfl : f = f' := by omega
    simp only [Sc.alts, List.mem_cons] at hj
    rcases hj with rfl | hj
    · exact key (by simpa using hk.1.1) hk.1.2
    · exact hr.2 hk.2 j hj f rfl
def dropL {α : Type} : Nat → List α → Option (List α)
 | 0, l => some l
 | _ + 1, [] => some []
 | k + 1, _ :: l => dropL k l
theorem dropL_drop {α : Type} : ∀ {k : Nat} {l m : List α}, dropL k l = some m → l.drop k = m
 | 0, l, m, h => by simpa [dropL] using h
 | _ + 1, [], m, h => by simpa [dropL] using h
 | k + 1, _ :: l, m, h => by simpa using dropL_drop (k := k) (l := l) h
theorem gd_tt {p : Prop} [Decidable p] (h : p) : (decide p == true) = true := by simp [h]
theorem gd_tf {p : Prop} [Decidable p] (h : ¬ p) : (decide p == true) = false := by simp [h]
theorem gd_ft {p : Prop} [Decidable p] (h : p) : (decide p == false) = false := by simp [h]
theorem gd_ff {p : Prop} [Decidable p] (h : ¬ p) : (decide p == false) = true := by simp [h]
def TW (P : Program) (n : Nat) (ops : Array Oper) (Q : Exit → Act → World → Prop) (S : World → Prop) (K : Nat) (s : Sc) (l : Sl) (w : World) : Prop := ∀ a, Env n l a → HT P ops Q S K s a w
section draws
variable {P : Program} {n : Nat} {ops : Array Oper} {Q : Exit → Act → World → Prop} {S : World → Prop} {K : Nat} {l : Sl} {w : World}
 {d i : Nat} {ty : TypeId} {pos : String} {after : Array Edge} {r x : Sc}
theorem cw_tdraw {id : Nat} {os : List Oper} (S : World → Prop) (K : Nat) (s : Sc) (hm : P.follows .mixedOrders = true) (hs : (Region.noSelect os.toArray && (Nat.ble os.length K || lateOk os.toArray K) && Sc.ok os.toArray K true s os.length (Array.replicate os.length false)) = true) (hQ : PanicOk Q)
 (h : ∀ w1, Ext w w1 → w1.heap = w.heap → S w1 ∧ TW P n os.toArray Q S K s l w1) : CW P n (.region id os.toArray true) Q l w := by
 unfold CW
 intro a ha
 simp only [Bool.and_eq_true] at hs
 obtain ⟨h1, h2⟩ := h w.drew (Ext.refl w).drew rfl
 have hre : ∀ i, i < K → Forced os.toArray K i := by
  by_cases hK : K < os.toArray.size
  · have hl := hs.1.2
    simp only [Bool.or_eq_true] at hl
    rcases hl with hl | hl
    · have := Nat.le_of_ble_eq_true hl
      simp at hK; omega
    · exact lateOk_forced hl hK
  · intro i hi listed j o _ hj ho _
    have hjs : j < os.toArray.size := (Array.getElem?_eq_some_iff.1 ho).1
    omega
 have hdc : DC os.toArray (Array.replicate os.length false) := fun k o _ hl => by
  exfalso
  rcases Nat.lt_or_ge k os.length with h' | h'
  · simp [h'] at hl
  · simp [Array.getElem?_eq_none, h'] at hl
 refine wp_region_any hm (wpAny_of_L (S := S) (K := K) _ _ _ _ ?_)
 have := (HT.any hs.1.1 hre hQ s os.length (Array.replicate os.length false) a w.drew hdc h1 (h2 a ha)).1 hs.2
 simpa using this
theorem tw_none : TW P n ops Q S K .none l w := fun _ _ => trivial
theorem tw_tail {os : List Oper} (he : dropL K ops.toList = some os) (h : LW P n ops Q os l w) : TW P n ops Q S K .tail l w := by
 unfold LW at h
 intro a ha
 show wpList P ops Q (ops.toList.drop K) a w
 rw [dropL_drop he]; exact h a ha
theorem tw_pure {op : Op} {v : Value} (hi : ops.toList[i]? = some ⟨some d, op, ty, pos, after, none⟩) (hp : Pur P n l S op ty v) (hd : Nat.blt d n = true) (k : TW P n ops Q S K r ((d, v) :: l) w) :
 TW P n ops Q S K (.pure i r) l w := by
 unfold Pur at hp
 exact fun a ha => ⟨_, v, hi, Or.inl ⟨rfl, fun w hS => hp a w _ _ _ _ ha hS⟩, k _ (ha.put hd v)⟩
theorem tw_on {op : Op} {v : Value} {j dj : Nat} {want b : Bool} (hi : ops.toList[i]? = some ⟨some d, op, ty, pos, after, some (j, want)⟩) (hj : guardAt ops j = some dj) (hn : Nat.blt dj n = true) (hb : look l dj = some (.bool b)) (hw : (b == want) = true)
 (hp : Pur P n l S op ty v) (hd : Nat.blt d n = true) (k : TW P n ops Q S K r ((d, v) :: l) w) : TW P n ops Q S K (.pure i r) l w := by
 unfold Pur at hp
 exact fun a ha => ⟨_, v, hi, Or.inl ⟨by rw [wanted_at ha rfl hj hn hb, hw], fun w hS => hp a w _ _ _ _ ha hS⟩, k _ (ha.put hd v)⟩
theorem tw_off {op : Op} {j dj : Nat} {want b : Bool} (hi : ops.toList[i]? = some ⟨some d, op, ty, pos, after, some (j, want)⟩) (hj : guardAt ops j = some dj) (hn : Nat.blt dj n = true) (hb : look l dj = some (.bool b)) (hw : (b == want) = false)
 (hd : Nat.blt d n = true) (k : TW P n ops Q S K r ((d, undef) :: l) w) : TW P n ops Q S K (.pure i r) l w := fun a ha =>
 ⟨_, undef, hi, Or.inr ⟨by rw [wanted_at ha rfl hj hn hb, hw], rfl⟩, k _ (ha.put hd undef)⟩
theorem tw_does {op : Op} {K' : Option Value → World → Prop} (hi : ops.toList[i]? = some ⟨some d, op, ty, pos, after, none⟩) (hp : Does P n l op ty w K') (hd : Nat.blt d n = true)
 (k : ∀ v w1, K' (some v) w1 → S w1 ∧ TW P n ops Q S K x ((d, v) :: l) w1) (k0 : ∀ w1, ¬ K' none w1) (kr : TW P n ops Q S K r l w) : TW P n ops Q S K (.fork i x r) l w := fun a ha => by
 unfold Does at hp
 refine ⟨?_, kr a ha⟩
 have hi' : ops[i]? = some ⟨some d, op, ty, pos, after, none⟩ := by simpa using hi
 unfold wpOp
 rw [hi']
 simp only
 rw [if_pos (wanted_plain rfl)]
 left
 exact hp a _ _ _ _ _ _ ha (fun v w1 hK => ⟨(k v w1 hK).1, (k v w1 hK).2 _ (ha.put hd v)⟩) (fun w1 h => absurd h (k0 w1))
theorem tw_does0 {op : Op} {K' : Option Value → World → Prop} (hi : ops.toList[i]? = some ⟨none, op, ty, pos, after, none⟩) (hp : Does P n l op ty w K')
 (k : ∀ v w1, K' v w1 → S w1 ∧ TW P n ops Q S K x l w1) (kr : TW P n ops Q S K r l w) : TW P n ops Q S K (.fork i x r) l w := fun a ha => by
 unfold Does at hp
 refine ⟨?_, kr a ha⟩
 have hi' : ops[i]? = some ⟨none, op, ty, pos, after, none⟩ := by simpa using hi
 unfold wpOp
 rw [hi']
 simp only
 rw [if_pos (wanted_plain rfl)]
 left
 exact hp a _ _ _ _ _ _ ha (fun v w1 hK => ⟨(k _ w1 hK).1, (k _ w1 hK).2 _ ha⟩) (fun w1 h => ⟨(k _ w1 h).1, (k _ w1 h).2 _ ha⟩)
end draws
theorem qw_retc {P : Program} {n : Nat} {l : Sl} {w : World} {fn : Func} {R : Ending → World → Prop} {tab : Tab} {t ty sz b : Nat} {s : Sk} {vs : List Value} (h : fn.results = #[.cell t ty]) (T : TabOk P tab) (ht : lookT tab ty = some (s, sz)) (hs : s.agg = true) (hv : look l t = some (.pointer (some ⟨b, 0, none⟩))) (hb : Blk w b vs) (hl : vs.length = sz)
 (hR : R (.returned (.agg vs.toArray)) w) : QW n (bodyPost P fn R) .ret l w := by
 unfold QW
 intro a ha
 refine ⟨ha.defers, .agg vs.toArray, ?_, hR⟩
 have e : (loadVar ty ⟨b, 0, none⟩).run P w = .ok (.agg vs.toArray) w := by
  simp only [Sem.run_bind, Sem.run_pure, Result.andThen, loadVar, run_isAgg (T _ _ _ ht), hs, if_true, run_sizeOf (T _ _ _ ht)]
  rw [← hl, run_loadCells' hb.row]
 have hv' := ha.has t _ hv
 simp only [Array.getD_eq_getD_getElem?] at hv'
 simp [results, h, hv', e, asAddr]
attribute [irreducible] TW
end Bk
namespace Bk
open Go Go.RowKit
section
variable {P : Program} {n : Nat} {l : Sl} {S : World → Prop} {tab : Tab} {ty : TypeId} {x y : Operand} {t t' sz : Nat}
theorem pur_field {f off ft sz2 : Nat} {fs : List (Nat × Nat)} {s : Sk} {vs : List Value} {v : Value} (T : TabOk P tab) (ht : lookT tab t = some (.struct fs, sz)) (hf : fs[f]? = some (off, ft)) (hft : lookT tab ft = some (s, sz2)) (hs : s.agg = false)
 (hx : ev l x = some (.agg vs.toArray)) (hv : vs[off]? = some v) : Pur P n l S (.field t x f) ty v := by
 unfold Pur
 intro a w dst pos after g ha _
 obtain ⟨gs, h1, -, h2⟩ := (T _ _ _ ht).under
 obtain ⟨fd, h3, h4, h5, -⟩ := h2 f off ft hf
 have e : (Instr.field t (.agg vs.toArray) f).run P w = .ok v w := by
  simp only [Instr.field, Sem.run_bind, run_underlying h1, Result.andThen, h3, asAgg, Sem.run_pure, part, h5, h4, run_isAgg (T _ _ _ hft), hs]
  simp [hv]
 simp [execOp, ha.ev hx, e]
theorem pur_indexAddr_eq {i : Operand} {e szE b o len cap : Nat} {k : IntKind} {j : Int} {sE : Sk} {q : Option Addr} (T : TabOk P tab) (ht : lookT tab t = some (.slice e, sz)) (hE : lookT tab e = some (sE, szE))
 (hx : ev l x = some (.slice q len cap)) (hq : q = some ⟨b, o, none⟩) (hi : ev l i = some (.int k j)) (h0 : 0 ≤ j) (h1 : j < len) : Pur P n l S (.indexAddr t x i) ty (.pointer (some ⟨b, o + j.toNat * szE, none⟩)) := by
 subst hq; exact pur_indexAddr T ht hE hx hi h0 h1
theorem pur_ifn0 (T : TabOk P tab) (ht : lookT tab t = some (.iface, sz)) (hx : ev l x = some .nilIface) : Pur P n l S (.binOp .neq t x (.const .nilIface) t') ty (.bool false) := by
 unfold Pur
 intro a w dst pos after g ha _
 obtain ⟨ms, hu⟩ := (T _ _ _ ht).under
 have e : (Op.equal t .nilIface .nilIface).run P w = .ok true w := by
  refine (fun h => h (Op.maxDepth - 1) : (∀ d, (Op.equalIn (d + 1) t .nilIface .nilIface).run P w = .ok true w) → _) (fun d => ?_)
  unfold Op.equalIn
  simp only [Sem.run_bind, run_underlying hu, Result.andThen_ok, Sem.run_pure]
 have e2 : (eqGuard .neq t x (.const .nilIface) .nilIface .nilIface).run P w = .ok () w := by
  unfold eqGuard; simp
 have e3 : (binOp .neq t .nilIface .nilIface).run P w = .ok (.bool false) w := by
  unfold binOp
  simp only [Sem.run_bind, e, Result.andThen_ok, Sem.run_pure, Bool.not_true]
 have hc : a.eval (.const .nilIface) = .nilIface := rfl
 simp only [execOp, ha.ev hx, hc, Sem.run_bind, e2, e3, Result.andThen_ok, Sem.run_pure]
theorem pur_ifn1 {te : TypeId} {pe : Value} (T : TabOk P tab) (ht : lookT tab t = some (.iface, sz)) (hx : ev l x = some (.iface te pe)) : Pur P n l S (.binOp .neq t x (.const .nilIface) t') ty (.bool true) := by
 unfold Pur
 intro a w dst pos after g ha _
 obtain ⟨ms, hu⟩ := (T _ _ _ ht).under
 have e : (Op.equal t (.iface te pe) .nilIface).run P w = .ok false w := by
  refine (fun h => h (Op.maxDepth - 1) : (∀ d, (Op.equalIn (d + 1) t (.iface te pe) .nilIface).run P w = .ok false w) → _) (fun d => ?_)
  unfold Op.equalIn
  simp only [Sem.run_bind, run_underlying hu, Result.andThen_ok, Sem.run_pure]
 have e2 : (eqGuard .neq t x (.const .nilIface) (.iface te pe) .nilIface).run P w = .ok () w := by
  unfold eqGuard; simp
 have e3 : (binOp .neq t (.iface te pe) .nilIface).run P w = .ok (.bool true) w := by
  unfold binOp
  simp only [Sem.run_bind, e, Result.andThen_ok, Sem.run_pure, Bool.not_false]
 have hc : a.eval (.const .nilIface) = .nilIface := rfl
 simp only [execOp, ha.ev hx, hc, Sem.run_bind, e2, e3, Result.andThen_ok, Sem.run_pure]
theorem pur_build' {fs : List (Nat × Nat)} {xs : List (Nat × Operand)} {ps : List (Nat × Value)} {qs : List (Nat × Nat × List Value)} {zt : ZTab} {zs : List Value} (out : List Value) (T : TabOk P tab) (Z : ZTabOk P zt)
 (ht : lookT tab t = some (.struct fs, sz)) (hz : lookZ zt t = some zs) (hp : partsS tab fs l xs = some (ps, qs)) (ho : fillL qs zs = some out) : Pur P n l S (.build t xs.toArray) ty (.agg out.toArray) := pur_build T Z ht hz hp ho
theorem pur_loads_blk' {b o : Nat} {s : Sk} {vs : List Value} (us : List Value) (T : TabOk P tab) (ht : lookT tab t = some (s, sz)) (hs : s.agg = true) (hx : ev l x = some (.pointer (some ⟨b, o, none⟩)))
 (hc : ∀ w, S w → Blk w b vs) (hl : Nat.ble (o + sz) vs.length = true) (he : (vs.drop o).take sz = us) : Pur P n l S (.load t x) ty (.agg us.toArray) := by subst he; exact pur_loads_blk T ht hs hx hc hl
theorem qw_retc3 {w : World} {fn : Func} {R : Ending → World → Prop} {ct cty b u s : Nat} {sk : Sk} {vs : List Value} {v2 v3 : Value} (h : fn.results = #[.cell ct cty, .tmp u, .tmp s]) (T : TabOk P tab) (ht : lookT tab cty = some (sk, sz)) (hs : sk.agg = true) (hv : look l ct = some (.pointer (some ⟨b, 0, none⟩))) (hb : Blk w b vs) (hl : vs.length = sz)
 (hu : look l u = some v2) (hz : look l s = some v3) (hR : R (.returned (.tuple #[.agg vs.toArray, v2, v3])) w) : QW n (bodyPost P fn R) .ret l w := by
 unfold QW
 intro a ha
 refine ⟨ha.defers, .tuple #[.agg vs.toArray, v2, v3], ?_, hR⟩
 have e : (loadVar cty ⟨b, 0, none⟩).run P w = .ok (.agg vs.toArray) w := by
  simp only [Sem.run_bind, Sem.run_pure, Result.andThen, loadVar, run_isAgg (T _ _ _ ht), hs, if_true, run_sizeOf (T _ _ _ ht)]
  rw [← hl, run_loadCells' hb.row]
 have hv' := ha.has ct _ hv
 have hu' := ha.has u _ hu
 have hz' := ha.has s _ hz
 simp only [Array.getD_eq_getD_getElem?] at hv' hu' hz'
 simp [results, h, hv', hu', hz', e, asAddr]
section rules
variable {w : World} {ops : Array Oper} {Q : Exit → Act → World → Prop} {rest : List Oper} {d : Nat} {pos : String} {after : Array Edge}
theorem lw_box' {v : Value} (vs : List Value) (hx : ev l x = some v) (hv : v.cells = vs.toArray) (hd : Nat.blt d n = true)
 (k : ∀ b w1, New w w1 b vs → LW P n ops Q rest ((d, .pointer (some ⟨b, 0, none⟩)) :: l) w1) : LW P n ops Q (⟨some d, .box t x, ty, pos, after, none⟩ :: rest) l w := lw_box hx hv hd k
theorem lw_alloc' {zt : ZTab} (vs : List Value) (Z : ZTabOk P zt) (hz : lookZ zt t = some vs) (hd : Nat.blt d n = true)
 (k : ∀ b w1, New w w1 b vs → LW P n ops Q rest ((d, .pointer (some ⟨b, 0, none⟩)) :: l) w1) : LW P n ops Q (⟨some d, .alloc t, ty, pos, after, none⟩ :: rest) l w := lw_alloc Z hz hd k
theorem lw_store' {b o : Nat} {s : Sk} {v : Value} {vs : List Value} (us vs' : List Value) (T : TabOk P tab) (ht : lookT tab t = some (s, sz)) (hx : ev l x = some (.pointer (some ⟨b, o, none⟩))) (hy : ev l y = some v)
 (hv : v.cells = us.toArray) (hl : us.length = sz) (h1 : us.all Value.one = true) (hb : Blk w b vs) (ho : Nat.ble (o + us.length) vs.length = true) (he : setMany vs o us = vs')
 (k : ∀ w1, Put w w1 b vs' → LW P n ops Q rest l w1) : LW P n ops Q (⟨none, .store t x y, ty, pos, after, none⟩ :: rest) l w := by
 subst he; exact lw_store T ht hx hy hv hl h1 hb ho k
theorem lw_init' {w0 : World} {b : Nat} {s : Sk} {v : Value} {vs : List Value} (us : List Value) (T : TabOk P tab) (ht : lookT tab t = some (s, sz)) (hx : ev l x = some (.pointer (some ⟨b, 0, none⟩))) (hy : ev l y = some v)
 (hv : v.cells = us.toArray) (hl : us.length = sz) (h1 : us.all Value.one = true) (hb : New w0 w b vs) (ho : us.length = vs.length)
 (k : ∀ w1, New w0 w1 b us → LW P n ops Q rest l w1) : LW P n ops Q (⟨none, .store t x y, ty, pos, after, none⟩ :: rest) l w := lw_init T ht hx hy hv hl h1 hb ho k
theorem does_slice' {e szE len : Nat} {sE : Sk} {zt : ZTab} {zs : List Value} {ps : List (Nat × Operand)} {vs : List Value} (cs : List Value) (T : TabOk P tab) (Z : ZTabOk P zt) (ht : lookT tab t = some (.slice e, sz)) (hE : lookT tab e = some (sE, szE))
 (hz : lookZ zt e = some zs) (hp : evParts l 0 ps = some vs) (hl : vs.length = len) (hc : vs.all (fun v => Nat.beq v.cells.size szE) = true) (hm : Nat.ble (len * szE) 10000 = true) (hn0 : Nat.blt 0 (len * szE) = true) (he : (vs.map (·.cells.toList)).flatten = cs) :
 Does P n l (.buildSlice t len ps.toArray) ty w (SliceAt w len cs e) := by subst he; exact does_slice T Z ht hE hz hp hl hc hm hn0
theorem lw_loads_b' {b o : Nat} {s : Sk} {vs : List Value} (us : List Value) (T : TabOk P tab) (ht : lookT tab t = some (s, sz)) (hs : s.agg = true) (hx : ev l x = some (.pointer (some ⟨b, o, none⟩)))
 (hb : Blk w b vs) (hl : Nat.ble (o + sz) vs.length = true) (he : (vs.drop o).take sz = us) (hd : Nat.blt d n = true) (k : LW P n ops Q rest ((d, .agg us.toArray) :: l) w) : LW P n ops Q (⟨some d, .load t x, ty, pos, after, none⟩ :: rest) l w := by
 subst he; exact lw_loads_b T ht hs hx hb hl hd k
theorem tw_store {K i b o : Nat} {r x' : Sc} {s : Sk} {v : Value} {vs : List Value} (us vs' : List Value) (hi : ops.toList[i]? = some ⟨none, .store t x y, ty, pos, after, none⟩) (T : TabOk P tab) (ht : lookT tab t = some (s, sz)) (hx : ev l x = some (.pointer (some ⟨b, o, none⟩))) (hy : ev l y = some v)
 (hv : v.cells = us.toArray) (hl : us.length = sz) (h1 : us.all Value.one = true) (hb : Blk w b vs) (ho : Nat.ble (o + us.length) vs.length = true) (he : setMany vs o us = vs')
 (k : ∀ w1, Put w w1 b vs' → S w1 ∧ TW P n ops Q S K x' l w1) (kr : TW P n ops Q S K r l w) : TW P n ops Q S K (.fork i x' r) l w := by
 subst he
 exact tw_does0 hi (does_store T ht hx hy hv hl h1 hb ho) (fun v w1 h => by cases v with | none => exact k w1 h | some _ => exact h.elim) kr
end rules
theorem pur_look_some {kt e sz1 sz2 r : Nat} {k : List UInt8} {z v : Value} {kvs : List (List UInt8 × Value)} (T : TabOk P tab) (ht : lookT tab t = some (.map kt e, sz1)) (hkt : lookT tab kt = some (.str, sz2)) (hz : ((P.info? e).bind (·.zero)) = some z)
 (hx : ev l x = some (.map (some r))) (hy : ev l y = some (str k)) (hm : ∀ w, S w → MapIs w r kvs) (hg : getS kvs k = some v) : Pur P n l S (.lookup t x y true) ty (.tuple #[v, .bool true]) := by
 have := pur_lookup (P := P) (n := n) (ty := ty) (c := true) T ht hkt hz hx hy hm
 rw [hg] at this; exact this
theorem pur_look_none {kt e sz1 sz2 r : Nat} {k : List UInt8} {z : Value} {kvs : List (List UInt8 × Value)} (T : TabOk P tab) (ht : lookT tab t = some (.map kt e, sz1)) (hkt : lookT tab kt = some (.str, sz2)) (hz : ((P.info? e).bind (·.zero)) = some z)
 (hx : ev l x = some (.map (some r))) (hy : ev l y = some (str k)) (hm : ∀ w, S w → MapIs w r kvs) (hg : getS kvs k = none) : Pur P n l S (.lookup t x y true) ty (.tuple #[z, .bool false]) := by
 have := pur_lookup (P := P) (n := n) (ty := ty) (c := true) T ht hkt hz hx hy hm
 rw [hg] at this; exact this
theorem pur_max {a b m : Int} (hx : ev l x = some (.int .i64 a)) (hy : ev l y = some (.int .i64 b)) (hm : max a b = m) : Pur P n l S (.call ⟨.builtin .max, #[x, y], #[t, t']⟩) ty (.int .i64 m) := by
 unfold Pur
 intro c w dst pos after g ha _
 have e : (if b > a then b else a) = m := by rw [← hm]; split <;> omega
 simp [execOp, resolve, invoke, builtin, Builtin.max_, Builtin.max2, ha.ev hx, ha.ev hy, e]
theorem pur_sfromN {k : IntKind} {i : Nat} {a : List UInt8} (T : TabOk P tab) (ht : lookT tab t = some (.str, sz)) (hx : ev l x = some (str a)) (hy : ev l y = some (.int k (i : Int))) (h1 : i ≤ a.length) : Pur P n l S (.slice t x (some y) none none) ty (str (a.drop i)) :=
 pur_sfrom T ht hx hy (by omega) (by omega)
theorem pur_spartN {z : Operand} {k k' : IntKind} {i m : Nat} {a : List UInt8} (T : TabOk P tab) (ht : lookT tab t = some (.str, sz)) (hx : ev l x = some (str a)) (hy : ev l y = some (.int k (i : Int))) (hz : ev l z = some (.int k' ((i : Int) + (m : Int)))) (h2 : i + m ≤ a.length) : Pur P n l S (.slice t x (some y) (some z) none) ty (str ((a.drop i).take m)) := by
 have h := pur_spart (P := P) (n := n) (l := l) (S := S) (ty := ty) T ht hx hy hz (by omega) (by omega) (by omega)
 have e : (a.take ((i : Int) + (m : Int)).toNat).drop (i : Int).toNat = (a.drop i).take m := by
  rw [show ((i : Int) + (m : Int)).toNat = i + m by omega, show (i : Int).toNat = i by omega, List.drop_take]
  congr 1; omega
 rw [e] at h; exact h
end
end Bk
namespace Bk
open Go Go.RowKit
section
variable {P : Program} {n d : Nat} {ops : Array Oper} {Q : Exit → Act → World → Prop} {rest : List Oper} {l : Sl} {w : World} {ty : TypeId} {pos : String} {after : Array Edge}
theorem cN {id : Nat} {os : List Oper} {y : Code} (h : LW P n os.toArray (Exit.then (y.wp P Q) Q) os l w) : LW P n ops (Exit.then ((Code.seq (.region id os.toArray false) y).wp P Q) Q) [] l w := lw_nil (qw_then (cw_seq (cw_region h)))
theorem cT {y : Code} (h : CW P n y Q l w) : LW P n ops (Exit.then (y.wp P Q) Q) [] l w := lw_nil (qw_then h)
theorem cS {id : Nat} {os : List Oper} {y : Code} (h : LW P n os.toArray (Exit.then (y.wp P Q) Q) os l w) : CW P n (.seq (.region id os.toArray false) y) Q l w := cw_seq (cw_region h)
theorem cM {x : Operand} {v : Value} (h : ev l x = some v) (hd : Nat.blt d n = true) (k : LW P n ops Q rest ((d, v) :: l) w) : LW P n ops Q (⟨some d, .move x, ty, pos, after, none⟩ :: rest) l w := lw_pure (pur_move h) hd k
theorem cA {x : Operand} {v : Value} (h : ev l x = some v) (hd : Nat.blt d n = true) (k : LW P n ops Q rest ((d, v) :: l) w) : LW P n ops Q (⟨some d, .assign x, ty, pos, after, none⟩ :: rest) l w := lw_pure (pur_assign h) hd k
theorem cC {f : FuncId} {xs : List Operand} {tys : Array TypeId} {vs : List Value} {v0 : Value} {R : World → Prop} (hb : bodied P f = true) (hxs : evs l xs = some vs) (C : Calls P f vs.toArray w (fun e w' => e = .returned v0 ∧ R w')) (hd : Nat.blt d n = true)
 (k : ∀ v w1, Ret (fun e w' => e = .returned v0 ∧ R w') (some v) w1 → LW P n ops Q rest ((d, v) :: l) w1) : LW P n ops Q (⟨some d, .call ⟨.value (.func f), xs.toArray, tys⟩, ty, pos, after, none⟩ :: rest) l w :=
 lw_does (does_call hb hxs C (fun _ _ h => ⟨_, h.1⟩)) hd k (fun _ h => h)
theorem cR {f : FuncId} {xs : List Operand} {tys : Array TypeId} {vs : List Value} {R : Ending → World → Prop} (hb : bodied P f = true) (hxs : evs l xs = some vs) (C : Calls P f vs.toArray w R) (hR : ∀ e w1, R e w1 → ∃ v, e = .returned v) (hd : Nat.blt d n = true)
 (k : ∀ v w1, Ret R (some v) w1 → LW P n ops Q rest ((d, v) :: l) w1) : LW P n ops Q (⟨some d, .call ⟨.value (.func f), xs.toArray, tys⟩, ty, pos, after, none⟩ :: rest) l w :=
 lw_does (does_call hb hxs C hR) hd k (fun _ h => h)
end
end Bk
namespace Bk
open Go Go.RowKit
structure Shape (α : Type) where
 sz : Nat
 rep : World → (Nat → Prop) → α → List Value → Prop
 len : ∀ {w S x cs}, rep w S x cs → cs.length = sz
 one : ∀ {w S x cs}, rep w S x cs → cs.all Value.one = true
 mono : ∀ {w w' : World} {S S' x cs}, rep w S x cs → (∀ b, S b → S' b) → (∀ b o v, S b → w.cell? ⟨b, o, none⟩ = some v → w'.cell? ⟨b, o, none⟩ = some v) → rep w' S' x cs
 lt : ∀ {w S x cs}, rep w S x cs → rep w (fun b => S b ∧ b < w.heap.size) x cs
structure OwnL {α : Type} (sh : Shape α) (w : World) (B : Nat) (e : TypeId) (v : Value) (xs : List α) : Prop where
 ex : ∃ css : List (List Value), Own w B e sh.sz v xs.length css.flatten ∧ css.length = xs.length ∧ ∀ (i : Nat) (x : α) (cs : List Value), xs[i]? = some x → css[i]? = some cs → sh.rep w (fun b => B ≤ b ∧ v.ownBlock ≠ some b) x cs
theorem OwnL.nil {α : Type} {sh : Shape α} {w : World} {B e : Nat} : OwnL sh w B e (.slice none 0 0) [] := ⟨⟨[], Own.nil, rfl, by simp⟩⟩
theorem Own.ge {w : World} {b e sz n : Nat} {v : Value} {cs : List Value} (h : Own w b e sz v n cs) {k : Nat} (hk : v.ownBlock = some k) : b ≤ k := (h.blk hk).1
theorem OwnL.ge {α : Type} {sh : Shape α} {w : World} {B e : Nat} {v : Value} {xs : List α} (h : OwnL sh w B e v xs) {k : Nat} (hk : v.ownBlock = some k) : B ≤ k := by
 obtain ⟨css, h1, -⟩ := h.ex
 exact h1.ge hk
theorem OwnL.ext {α : Type} {sh : Shape α} {w w' : World} {B e : Nat} {v : Value} {xs : List α} (h : OwnL sh w B e v xs) (x : Ext w w') : OwnL sh w' B e v xs := by
 obtain ⟨css, h1, h2, h3⟩ := h.ex
 exact ⟨css, h1.ext x, h2, fun i y cs hy hc => sh.mono (h3 i y cs hy hc) (fun _ h => h) (fun b o u _ hu => x.keep hu)⟩
theorem OwnL.fr {α : Type} {sh : Shape α} {S : Nat → Prop} {w w' : World} {B e : Nat} {v : Value} {xs : List α} (h : OwnL sh w B e v xs) (x : Fr S w w') (hs : ∀ k, S k → k < B) : OwnL sh w' B e v xs := by
 obtain ⟨css, h1, h2, h3⟩ := h.ex
 exact ⟨css, h1.fr x (fun k hk hS => by have := h1.ge hk; have := hs k hS; omega), h2, fun i y cs hy hc => sh.mono (h3 i y cs hy hc) (fun _ h => h) (fun b o u hb hu => x.keep (fun hS => by have := hs b hS; omega) hu)⟩
theorem flatten_length {α : Type} {css : List (List α)} {n : Nat} (h : ∀ cs ∈ css, cs.length = n) : css.flatten.length = css.length * n := by
 induction css with
 | nil => simp
 | cons c r ih =>
  simp only [List.flatten_cons, List.length_append, List.length_cons, ih (fun x hx => h x (List.mem_cons_of_mem _ hx)), h c List.mem_cons_self, Nat.add_mul]
  omega
def GrewL {α : Type} (sh : Shape α) (w : World) (B : Nat) (e : TypeId) (xs : List α) : Option Value → World → Prop
 | some v', w' => ∃ g cap, v' = .slice (some ⟨g, 0, none⟩) xs.length cap ∧ OwnL sh w' B e v' xs ∧ Fr (B ≤ ·) w w'
 | none, _ => False
section
variable {P : Program} {n : Nat} {l : Sl} {w : World} {tab : Tab} {zt : ZTab} {ty : TypeId} {α : Type} {sh : Shape α}
theorem does_appendL {x y : Operand} {t e sz1 B cap : Nat} {sE : Sk} {zs : List Value} {v : Value} {xs : List α} {cs : List Value} {z : α} {p : Addr} (T : TabOk P tab) (Z : ZTabOk P zt) (ht : lookT tab t = some (.slice e, sz1)) (hE : lookT tab e = some (sE, sh.sz)) (hz : lookZ zt e = some zs) (hzl : zs.length = sh.sz)
 (hby : bytesOk P e = true) (hsz : Nat.blt 0 sh.sz = true) (hx : ev l x = some v) (hy : ev l y = some (.slice (some p) 1 cap)) (hown : OwnL sh w B e v xs) (hr : Row w p cs) (hrep : sh.rep w (fun b => B ≤ b ∧ v.ownBlock ≠ some b) z cs) (hlen : xs.length ≤ 10000000000) (hB : B ≤ w.heap.size) :
 Does P n l (.call ⟨.builtin .append, #[x, y], #[t, t]⟩) ty w (GrewL sh w B e (xs ++ [z])) := by
 obtain ⟨css, h1, h2, h3⟩ := hown.ex; have hd := does_append (P := P) (n := n) (l := l) (ty := ty) T Z ht hE hz hzl hby hsz hx hy h1 hr (by rw [sh.len hrep]; simp) (sh.one hrep) (by omega) (by omega) hB
 unfold Does at hd ⊢
 intro a dst pos after g next Q ha hn hn0; refine hd a dst pos after g next Q ha (fun v' w' hG => ?_) (fun w' hG => hG.elim); obtain ⟨g1, g2, g, cap', g3, g4⟩ := hG; have hgB : B ≤ g := g1.ge (k := g) (by rw [g3]; rfl); refine hn v' w' ⟨g, cap', by rw [g3]; simp, ⟨css ++ [cs], ?_, by simp [h2], fun i y ds hy hc => ?_⟩, g2.weaken (fun b hb => h1.ge hb)⟩
 · have e1 : (css ++ [cs]).flatten = css.flatten ++ cs := by simp
   have e2 : (xs ++ [z]).length = xs.length + 1 := by simp
   rw [e1, e2]; exact g1
 · have key : sh.rep w (fun b => B ≤ b ∧ v.ownBlock ≠ some b) y ds := by
    by_cases hi : i < xs.length
    · rw [List.getElem?_append_left hi] at hy
      rw [List.getElem?_append_left (by omega)] at hc
      exact h3 i y ds hy hc
    · have hil : i < (xs ++ [z]).length := by
       rcases Nat.lt_or_ge i (xs ++ [z]).length with h | h
       · exact h
       · rw [List.getElem?_eq_none h] at hy; cases hy
      simp only [List.length_append, List.length_cons, List.length_nil] at hil
      have hi' : i = xs.length := by omega
      subst hi'; rw [List.getElem?_append_right (Nat.le_refl _)] at hy; rw [List.getElem?_append_right (by omega)] at hc; simp only [Nat.sub_self, List.getElem?_cons_zero, Option.some.injEq] at hy; rw [h2] at hc; simp only [Nat.sub_self, List.getElem?_cons_zero, Option.some.injEq] at hc; subst hy hc
      exact hrep
   refine sh.mono (sh.lt key) (fun b hb => ⟨hb.1.1, fun e => ?_⟩) (fun b o u hb hu => g2.keep hb.1.2 hu); rw [g3] at e; simp only [Value.ownBlock, Option.some.injEq] at e; subst e
   rcases g4 with h | h
   · exact hb.1.2 h
   · omega
theorem lw_appendL {ops : Array Oper} {Q : Exit → Act → World → Prop} {rest : List Oper} {d : Nat} {pos : String} {after : Array Edge} {x y : Operand} {t e sz1 B cap : Nat} {sE : Sk} {zs : List Value} {v : Value} {xs : List α} {cs : List Value} {z : α} {p : Addr} (T : TabOk P tab) (Z : ZTabOk P zt) (ht : lookT tab t = some (.slice e, sz1)) (hE : lookT tab e = some (sE, sh.sz)) (hz : lookZ zt e = some zs) (hzl : zs.length = sh.sz)
 (hby : bytesOk P e = true) (hsz : Nat.blt 0 sh.sz = true) (hx : ev l x = some v) (hy : ev l y = some (.slice (some p) 1 cap)) (hown : OwnL sh w B e v xs) (hr : Row w p cs) (hrep : sh.rep w (fun b => B ≤ b ∧ v.ownBlock ≠ some b) z cs) (hlen : xs.length ≤ 10000000000) (hB : B ≤ w.heap.size) (hd : Nat.blt d n = true)
 (k : ∀ g cap' w1, OwnL sh w1 B e (.slice (some ⟨g, 0, none⟩) (xs ++ [z]).length cap') (xs ++ [z]) → Fr (B ≤ ·) w w1 → LW P n ops Q rest ((d, .slice (some ⟨g, 0, none⟩) (xs ++ [z]).length cap') :: l) w1) :
 LW P n ops Q (⟨some d, .call ⟨.builtin .append, #[x, y], #[t, t]⟩, ty, pos, after, none⟩ :: rest) l w :=
 lw_does (does_appendL T Z ht hE hz hzl hby hsz hx hy hown hr hrep hlen hB) hd (fun v w1 ⟨g, cap, h, ho, hf⟩ => by subst h; exact k g cap w1 ho hf) (fun _ h => h)
end
section
variable {P : Program} {n : Nat} {l : Sl} {S : World → Prop} {w : World} {tab : Tab} {zt : ZTab} {ty : TypeId} {ops : Array Oper} {Q : Exit → Act → World → Prop} {rest : List Oper} {d : Nat} {pos : String} {after : Array Edge}
end
theorem OwnL.rows {α : Type} {sh : Shape α} {w : World} {B e : Nat} {v : Value} {xs : List α} (h : OwnL sh w B e v xs) (hx : xs ≠ []) : ∃ g cap, v = .slice (some ⟨g, 0, none⟩) xs.length cap ∧ B ≤ g ∧ ∀ (i : Nat) (x : α), xs[i]? = some x → ∃ cs, Row w ⟨g, i * sh.sz, none⟩ cs ∧ sh.rep w (fun b => B ≤ b ∧ b ≠ g) x cs := by
 obtain ⟨css, h1, h2, h3⟩ := h.ex
 rcases h1.row with ⟨rfl, hn, -⟩ | ⟨g, cap, rfl, hg, hob, hr⟩
 · exact absurd (List.length_eq_zero_iff.1 hn) hx
 · refine ⟨g, cap, rfl, hg, fun i x hi => ?_⟩
   have hlt : i < xs.length := by
    rcases Nat.lt_or_ge i xs.length with h | h
    · exact h
    · rw [List.getElem?_eq_none h] at hi; cases hi
   have hc : css[i]? = some css[i] := List.getElem?_eq_getElem (by omega); refine ⟨css[i], ?_, sh.mono (h3 i x _ hi hc) (fun b hb => ⟨hb.1, fun e => hb.2 (by rw [hob, e])⟩) (fun _ _ _ _ h => h)⟩; intro j u hj
   have hlen : ∀ cs ∈ css, cs.length = sh.sz := fun cs hcs => by
    obtain ⟨k, hk, rfl⟩ := List.mem_iff_getElem.1 hcs
    exact sh.len (h3 k xs[k] css[k] (List.getElem?_eq_getElem (by omega)) (List.getElem?_eq_getElem hk))
   have hjl : j < sh.sz := by
    rw [← sh.len (h3 i x _ hi hc)]
    rcases Nat.lt_or_ge j css[i].length with h | h
    · exact h
    · rw [List.getElem?_eq_none h] at hj; cases hj
   have hget : css.flatten[i * sh.sz + j]? = some u := by
    have hsp : css = css.take i ++ css[i] :: css.drop (i + 1) := by
     have h1 := (List.take_append_drop i css).symm
     rwa [List.drop_eq_getElem_cons (by omega)] at h1
    have hfl : css.flatten = (css.take i).flatten ++ (css[i] ++ (css.drop (i + 1)).flatten) := by
     refine (congrArg List.flatten hsp).trans ?_; rw [List.flatten_append, List.flatten_cons]
    have htl : (css.take i).flatten.length = i * sh.sz := by
     rw [flatten_length (fun cs hcs => hlen cs (List.mem_of_mem_take hcs)), List.length_take]
     congr 1; omega
    rw [hfl, List.getElem?_append_right (by omega), htl, Nat.add_sub_cancel_left, List.getElem?_append_left (by rw [hlen _ (List.getElem_mem _)]; exact hjl)]
    exact hj
   have := hr.at (i := i * sh.sz + j) hget
   have e : (⟨g, i * sh.sz, none⟩ : Addr).add j = ⟨g, 0 + (i * sh.sz + j), none⟩ := by unfold Addr.add; by_cases h0 : j = 0 <;> simp [h0]
   rw [e]; exact this
theorem OwnL.slice {α : Type} {sh : Shape α} {w : World} {B e : Nat} {v : Value} {xs : List α} (h : OwnL sh w B e v xs) : ∃ a cap, v = .slice a xs.length cap := by
 obtain ⟨css, h1, h2, h3⟩ := h.ex
 rcases h1.row with ⟨rfl, hn, -⟩ | ⟨g, cap, rfl, -⟩
 · exact ⟨none, 0, by rw [hn]⟩
 · exact ⟨_, _, rfl⟩
theorem sits_lt2 {S : Nat → Prop} {w : World} (t : Nd) (a : Option Addr) (h : t.sits S w a) : t.sits (fun b => S b ∧ b < w.heap.size) w a := by
 have key : ∀ N : Nat, (∀ (l : List Nd) (a : Option Addr), rowSize l < N → rowSits S w l a → rowSits (fun b => S b ∧ b < w.heap.size) w l a) := by
  intro N
  induction N with
  | zero => intro l a h; omega
  | succ N ih =>
   intro l a hN h
   cases l with
   | nil => simp [rowSits]
   | cons x r =>
    simp only [rowSits] at h ⊢; obtain ⟨b, o, a', c, rfl, hS, h0, h1, h2, h3, hs, hr⟩ := h; have hb := cell_lt h0; simp only [rowSize] at hN; have hx := Nd.size_pos x; obtain ⟨k, n, s, l⟩ := x; simp only [Nd.size] at hN; refine ⟨b, o, a', c, rfl, ⟨hS, hb⟩, h0, h1, h2, h3, ?_, ih r _ (by omega) hr⟩; simp only [Nd.sits] at hs ⊢
    exact ih l a' (by omega) hs
 obtain ⟨k, n, s, l⟩ := t; simp only [Nd.sits] at h ⊢
 exact key (rowSize l + 1) l a (by omega) h
def ndShape : Shape Nd where
 sz := 4
 rep := fun w S t cs => ∃ a c, cs = t.cells a c ∧ t.sits S w a
 len := fun ⟨_, _, h, _⟩ => by rw [h]; rfl
 one := fun ⟨_, _, h, _⟩ => by rw [h]; rfl
 mono := fun ⟨a, c, h, hs⟩ hS hc => ⟨a, c, h, Nd.sits_mono hS hc _ a hs⟩
 lt := fun ⟨a, c, h, hs⟩ => ⟨a, c, h, sits_lt2 _ a hs⟩
theorem rowSits_of {S : Nat → Prop} {w : World} {g : Nat} (hS : S g) : ∀ (xs : List Nd) (o : Nat), (∀ (i : Nat) (x : Nd), xs[i]? = some x → ∃ a c, Row w ⟨g, o + i * 4, none⟩ (x.cells a c) ∧ x.sits S w a) → rowSits S w xs (some ⟨g, o, none⟩)
 | [], _, _ => by simp [rowSits]
 | x :: r, o, h => by
  simp only [rowSits]; obtain ⟨a, c, hr, hs⟩ := h 0 x rfl; simp only [Nat.zero_mul, Nat.add_zero] at hr; refine ⟨g, o, a, c, rfl, hS, hr.at0 rfl, hr.at (i := 1) rfl, hr.at (i := 2) rfl, hr.at (i := 3) rfl, hs, rowSits_of hS r (o + 4) (fun i y hy => ?_)⟩; obtain ⟨a, c, hr, hs⟩ := h (i + 1) y (by simpa using hy)
  exact ⟨a, c, by rw [show o + 4 + i * 4 = o + (i + 1) * 4 from by omega]; exact hr, hs⟩
theorem OwnL.sits {w : World} {B e : Nat} {a : Option Addr} {len cap : Nat} {xs : List Nd} {S : Nat → Prop} (h : OwnL ndShape w B e (.slice a len cap) xs) (hS : ∀ b, B ≤ b → S b) : rowSits S w xs a := by
 by_cases hx : xs = []
 · subst hx; simp [rowSits]
 · obtain ⟨g, cap', hv, hg, hall⟩ := h.rows hx
   simp only [Value.slice.injEq] at hv; obtain ⟨rfl, -, -⟩ := hv; refine rowSits_of (hS g hg) xs 0 (fun i x hi => ?_); obtain ⟨cs, hr, a, c, rfl, hs⟩ := hall i x hi
   exact ⟨a, c, by simpa [ndShape] using hr, Nd.sits_mono (fun b hb => hS b hb.1) (fun _ _ _ _ h => h) _ _ hs⟩
theorem row_of_cells {w : World} {b o : Nat} {v0 v1 v2 v3 : Value} (h0 : w.cell? ⟨b, o, none⟩ = some v0) (h1 : w.cell? ⟨b, o + 1, none⟩ = some v1) (h2 : w.cell? ⟨b, o + 2, none⟩ = some v2) (h3 : w.cell? ⟨b, o + 3, none⟩ = some v3) : Row w ⟨b, o, none⟩ [v0, v1, v2, v3] := fun i v hi => by
 rcases i with _ | _ | _ | _ | i <;> simp at hi <;> (subst hi; simpa [Addr.add])
theorem kidRows {S : Nat → Prop} {w : World} {l : List Nd} {a : Option Addr} (h : rowSits S w l a) (hl : l ≠ []) : ∃ b o, a = some ⟨b, o, none⟩ ∧ S b ∧ ∀ i t, l[i]? = some t → ∃ a' c, Row w ⟨b, o + i * 4, none⟩ (t.cells a' c) ∧ t.sits S w a' := by
 cases l with
 | nil => exact absurd rfl hl
 | cons x r =>
  obtain ⟨b, o, a', c, rfl, hS, -⟩ := rowSits_get h (i := 0) (t := x) rfl; refine ⟨b, o, rfl, hS, fun i t ht => ?_⟩; obtain ⟨b', o', a', c, he, -, h0, h1, h2, h3, hs⟩ := rowSits_get h ht; simp only [Option.some.injEq, Addr.mk.injEq] at he; obtain ⟨rfl, rfl, -⟩ := he
  exact ⟨a', c, row_of_cells h0 h1 h2 h3, hs⟩
theorem sits_mk {S : Nat → Prop} {w : World} {k n : Int} {s : List UInt8} {l : List Nd} {a : Option Addr} (h : rowSits S w l a) : (Nd.mk k n s l).sits S w a := by simp only [Nd.sits]; exact h
theorem OwnL.lt {α : Type} {sh : Shape α} {w : World} {B e : Nat} {v : Value} {xs : List α} (h : OwnL sh w B e v xs) {k : Nat} (hk : v.ownBlock = some k) : k < w.heap.size := by
 obtain ⟨css, h1, -⟩ := h.ex
 exact (h1.blk hk).2
theorem sits_nil {S : Nat → Prop} {w : World} {k n : Int} {s : List UInt8} {a : Option Addr} : (Nd.mk k n s []).sits S w a := by simp [Nd.sits, rowSits]
theorem Nd.sits.wide {S S' : Nat → Prop} {w : World} {t : Nd} {a : Option Addr} (h : t.sits S w a) (hS : ∀ b, S b → S' b) : t.sits S' w a := Nd.sits_mono hS (fun _ _ _ _ h => h) t a h
section
variable {S : Nat → Prop} {w : World} {k n : Int} {s : List UInt8} {b : Nat} {x y z u : Nd} {xa ya za ua : Option Addr} {xc yc zc uc : Nat}
theorem Blk.sub {vs : List Value} (h : Blk w b vs) (i m : Nat) : Row w ⟨b, i, none⟩ ((vs.drop i).take m) := by
 have := h.row.sub i m
 simpa using this
theorem sits_1 {S1 : Nat → Prop} (h : Blk w b (x.cells xa xc)) (hb : S b) (hx : x.sits S1 w xa) (kx : ∀ b, S1 b → S b) : (Nd.mk k n s [x]).sits S w (some ⟨b, 0, none⟩) := by
 simp only [Nd.sits]; refine rowSits_of hb _ 0 (fun i t ht => ?_)
 match i, ht with
 | 0, ht => simp at ht; subst ht; exact ⟨xa, xc, h.sub 0 4, Nd.sits.wide hx kx⟩
theorem sits_2 {S1 S2 : Nat → Prop} (h : Blk w b (x.cells xa xc ++ y.cells ya yc)) (hb : S b) (hx : x.sits S1 w xa) (kx : ∀ b, S1 b → S b) (hy : y.sits S2 w ya) (ky : ∀ b, S2 b → S b) : (Nd.mk k n s [x, y]).sits S w (some ⟨b, 0, none⟩) := by
 simp only [Nd.sits]; refine rowSits_of hb _ 0 (fun i t ht => ?_)
 match i, ht with
 | 0, ht => simp at ht; subst ht; exact ⟨xa, xc, h.sub 0 4, Nd.sits.wide hx kx⟩
 | 1, ht => simp at ht; subst ht; exact ⟨ya, yc, h.sub 4 4, Nd.sits.wide hy ky⟩
theorem sits_3 {S1 S2 S3 : Nat → Prop} (h : Blk w b (x.cells xa xc ++ y.cells ya yc ++ z.cells za zc)) (hb : S b) (hx : x.sits S1 w xa) (kx : ∀ b, S1 b → S b) (hy : y.sits S2 w ya) (ky : ∀ b, S2 b → S b) (hz : z.sits S3 w za) (kz : ∀ b, S3 b → S b) : (Nd.mk k n s [x, y, z]).sits S w (some ⟨b, 0, none⟩) := by
 simp only [Nd.sits]; refine rowSits_of hb _ 0 (fun i t ht => ?_)
 match i, ht with
 | 0, ht => simp at ht; subst ht; exact ⟨xa, xc, h.sub 0 4, Nd.sits.wide hx kx⟩
 | 1, ht => simp at ht; subst ht; exact ⟨ya, yc, h.sub 4 4, Nd.sits.wide hy ky⟩
 | 2, ht => simp at ht; subst ht; exact ⟨za, zc, h.sub 8 4, Nd.sits.wide hz kz⟩
theorem sits_4 {S1 S2 S3 S4 : Nat → Prop} (h : Blk w b (x.cells xa xc ++ y.cells ya yc ++ z.cells za zc ++ u.cells ua uc)) (hb : S b) (hx : x.sits S1 w xa) (kx : ∀ b, S1 b → S b) (hy : y.sits S2 w ya) (ky : ∀ b, S2 b → S b) (hz : z.sits S3 w za) (kz : ∀ b, S3 b → S b) (hu : u.sits S4 w ua) (ku : ∀ b, S4 b → S b) : (Nd.mk k n s [x, y, z, u]).sits S w (some ⟨b, 0, none⟩) := by
 simp only [Nd.sits]; refine rowSits_of hb _ 0 (fun i t ht => ?_)
 match i, ht with
 | 0, ht => simp at ht; subst ht; exact ⟨xa, xc, h.sub 0 4, Nd.sits.wide hx kx⟩
 | 1, ht => simp at ht; subst ht; exact ⟨ya, yc, h.sub 4 4, Nd.sits.wide hy ky⟩
 | 2, ht => simp at ht; subst ht; exact ⟨za, zc, h.sub 8 4, Nd.sits.wide hz kz⟩
 | 3, ht => simp at ht; subst ht; exact ⟨ua, uc, h.sub 12 4, Nd.sits.wide hu ku⟩
end
end Bk
namespace Bk
structure VD where
 name : List UInt8
 kind : Int
 len : Int
structure PD where
 name : List UInt8
 params : List VD
 body : Nd
structure PG where
 vars : List VD
 procs : List PD
 main : Nd
end Bk
namespace Bk
open Go
structure Tok where
 kind : Int
 text : List UInt8
 pos : Int
def Tok.zero : Tok := ⟨0, [], 0⟩
structure PS where
 at_ : Nat
 off : Int
 err : Int
section
variable (ts : List Tok) (n : Int)
def peekP (σ : PS) : Tok := if σ.err ≠ 0 ∨ σ.at_ = ts.length then Tok.zero else ts.getD σ.at_ Tok.zero
def failP (σ : PS) (off e : Int) : PS := if σ.err = 0 then ⟨σ.at_, off, e⟩ else σ
def unexpP (σ : PS) : PS := if σ.at_ < ts.length then failP σ (ts.getD σ.at_ Tok.zero).pos 3 else failP σ n 4
def nextP (σ : PS) : PS := ⟨σ.at_ + 1, σ.off, σ.err⟩
def hasP (σ : PS) (t : List UInt8) : Bool := decide ((peekP ts σ).text = t)
def acceptP (σ : PS) (t : List UInt8) : PS := if hasP ts σ t then nextP σ else σ
def expectP (σ : PS) (t : List UInt8) : PS := if hasP ts σ t then nextP σ else unexpP ts n σ
def nameP (σ : PS) : List UInt8 × PS := if isName (peekP ts σ).text then ((peekP ts σ).text, nextP σ) else ([], unexpP ts n σ)
def digitsVal (s : List UInt8) : Nat := s.foldl (fun a c => a * 10 + (c.toNat - 48)) 0
def numberP (least most : Int) (σ : PS) : Int × PS :=
 if (peekP ts σ).kind = 2 then
  if (digitsVal (peekP ts σ).text : Int) ≤ 9223372036854775807 ∧ least ≤ (digitsVal (peekP ts σ).text : Int) ∧ (digitsVal (peekP ts σ).text : Int) ≤ most then ((digitsVal (peekP ts σ).text : Int), nextP σ)
  else (0, failP (nextP σ) (peekP ts σ).pos 2)
 else (0, unexpP ts n σ)
def binOf (t : List UInt8) : Option Int := [8, 9, 10, 11, 12, 13, 14, 15, 16, 17, 18, 19, 20, 21, 22, 23].find? (fun k => decide (symbol k = t))
mutual
def exprP : Nat → Int → PS → Nd × PS
 | 0, _, σ => (.mk 0 0 [] [], σ)
 | k + 1, lv, σ => climbP k lv (unaryP k σ).1 (unaryP k σ).2
def climbP : Nat → Int → Nd → PS → Nd × PS
 | 0, _, x, σ => (x, σ)
 | k + 1, lv, x, σ => match binOf (peekP ts σ).text with
  | none => (x, σ)
  | some op => if level op < lv then (x, σ) else
   climbP k lv (.mk op 0 [] [x, (exprP k (level op + 1) (nextP σ)).1]) (exprP k (level op + 1) (nextP σ)).2
def unaryP : Nat → PS → Nd × PS
 | 0, σ => (.mk 0 0 [] [], σ)
 | k + 1, σ =>
  if hasP ts σ [45] then (.mk 6 0 [] [(unaryP k (nextP σ)).1], (unaryP k (nextP σ)).2)
  else if hasP ts σ [33] then (.mk 7 0 [] [(unaryP k (nextP σ)).1], (unaryP k (nextP σ)).2)
  else primaryP k σ
def primaryP : Nat → PS → Nd × PS
 | 0, σ => (.mk 0 0 [] [], σ)
 | k + 1, σ =>
  if (peekP ts σ).kind = 2 then (.mk 1 (numberP ts n 0 9223372036854775807 σ).1 [] [], (numberP ts n 0 9223372036854775807 σ).2)
  else if hasP ts σ [116, 111, 112] then (.mk 4 0 (nameP ts n (expectP ts n (nextP σ) [40])).1 [], expectP ts n (nameP ts n (expectP ts n (nextP σ) [40])).2 [41])
  else if hasP ts σ [115, 105, 122, 101] then (.mk 5 0 (nameP ts n (expectP ts n (nextP σ) [40])).1 [], expectP ts n (nameP ts n (expectP ts n (nextP σ) [40])).2 [41])
  else if hasP ts σ [40] then ((exprP k 1 (nextP σ)).1, expectP ts n (exprP k 1 (nextP σ)).2 [41])
  else placeP k σ
def placeP : Nat → PS → Nd × PS
 | 0, σ => (.mk 0 0 [] [], σ)
 | k + 1, σ =>
  if hasP ts (nameP ts n σ).2 [91] then (.mk 3 0 (nameP ts n σ).1 [(exprP k 1 (nextP (nameP ts n σ).2)).1], expectP ts n (exprP k 1 (nextP (nameP ts n σ).2)).2 [93])
  else (.mk 2 0 (nameP ts n σ).1 [], (nameP ts n σ).2)
end
def argP (σ : PS) : Nd × PS := (.mk 2 0 (nameP ts n σ).1 [], (nameP ts n σ).2)
def argsP : Nat → List Nd → PS → List Nd × PS
 | 0, acc, σ => (acc, σ)
 | k + 1, acc, σ =>
  if hasP ts σ [44] then
   argsP k (acc ++ [(argP ts n (if acc.length = 8 ∧ isName (peekP ts (nextP σ)).text = true then failP (nextP σ) (peekP ts (nextP σ)).pos 5 else nextP σ)).1])
    (argP ts n (if acc.length = 8 ∧ isName (peekP ts (nextP σ)).text = true then failP (nextP σ) (peekP ts (nextP σ)).pos 5 else nextP σ)).2
  else (acc, σ)
def callP (k : Nat) (kind : Int) (σ : PS) : Nd × PS :=
 let m := nameP ts n (nextP σ)
 let σ1 := expectP ts n m.2 [40]
 if hasP ts σ1 [41] then (.mk kind 0 m.1 [], nextP σ1)
 else
  let a := argP ts n σ1
  let r := argsP ts n k [a.1] a.2
  (.mk kind 0 m.1 r.1, expectP ts n r.2 [41])
def updKind (t : List UInt8) : Int := if t = [43, 61] then 40 else if t = [45, 61] then 41 else if t = [94, 61] then 42 else if t = [58, 61] then 56 else 0
def updateP (k : Nat) (σ : PS) : Nd × PS :=
 let p := placeP ts n k σ
 if hasP ts p.2 [60, 61, 62] then (.mk 43 0 [] [p.1, (placeP ts n k (nextP p.2)).1], (placeP ts n k (nextP p.2)).2)
 else if updKind (peekP ts p.2).text = 0 then (.mk 0 0 [] [], unexpP ts n p.2)
 else (.mk (updKind (peekP ts p.2).text) 0 [] [p.1, (exprP ts n k 1 (nextP p.2)).1], (exprP ts n k 1 (nextP p.2)).2)
def stackP (k : Nat) (kind : Int) (σ : PS) : Nd × PS :=
 let p := placeP ts n k (nextP σ)
 let m := nameP ts n (expectP ts n p.2 [44])
 (.mk kind 0 m.1 [p.1], m.2)
def tapeP (k : Nat) (kind : Int) (σ : PS) : Nd × PS := (.mk kind 0 [] [(placeP ts n k (nextP σ)).1], (placeP ts n k (nextP σ)).2)
mutual
def stmtP : Nat → PS → Nd × PS
 | 0, σ => (.mk 0 0 [] [], σ)
 | k + 1, σ =>
  if (peekP ts σ).text = [112, 117, 115, 104] then stackP ts n k 44 σ else if (peekP ts σ).text = [112, 111, 112] then stackP ts n k 45 σ
  else if (peekP ts σ).text = [114, 101, 97, 100] then tapeP ts n k 46 σ else if (peekP ts σ).text = [117, 110, 114, 101, 97, 100] then tapeP ts n k 47 σ else if (peekP ts σ).text = [119, 114, 105, 116, 101] then tapeP ts n k 48 σ else if (peekP ts σ).text = [117, 110, 119, 114, 105, 116, 101] then tapeP ts n k 49 σ
  else if (peekP ts σ).text = [99, 97, 108, 108] then callP ts n k 50 σ else if (peekP ts σ).text = [117, 110, 99, 97, 108, 108] then callP ts n k 51 σ
  else if (peekP ts σ).text = [105, 102] then branchesP k 52 [101, 108, 115, 101] [102, 105] σ else if (peekP ts σ).text = [102, 114, 111, 109] then branchesP k 53 [108, 111, 111, 112] [117, 110, 116, 105, 108] σ
  else if (peekP ts σ).text = [108, 111, 99, 97, 108] then localP k σ else updateP ts n k σ
def branchesP : Nat → Int → List UInt8 → List UInt8 → PS → Nd × PS
 | 0, _, _, _, σ => (.mk 0 0 [] [], σ)
 | k + 1, kind, mid, last, σ =>
  let a := exprP ts n k 1 (nextP σ)
  let x := blockP k a.2
  let y := blockP k (expectP ts n x.2 mid)
  let e := exprP ts n k 1 (expectP ts n y.2 last)
  (.mk kind 0 [] [a.1, x.1, y.1, e.1], e.2)
def localP : Nat → PS → Nd × PS
 | 0, σ => (.mk 0 0 [] [], σ)
 | k + 1, σ =>
  if hasP ts (nextP σ) [115, 116, 97, 99, 107] then
   let m := nameP ts n (nextP (nextP σ))
   let x := blockP k m.2
   (.mk 55 0 m.1 [x.1], x.2)
  else
   let m := nameP ts n (nextP σ)
   let a := exprP ts n k 1 (expectP ts n m.2 [61])
   let x := blockP k a.2
   let e := exprP ts n k 1 (expectP ts n x.2 [100, 101, 108, 111, 99, 97, 108])
   (.mk 54 0 m.1 [a.1, x.1, e.1], e.2)
def blockP : Nat → PS → Nd × PS
 | 0, σ => (.mk 57 0 [] [], σ)
 | k + 1, σ => let r := stmtsP k [] (expectP ts n σ [123]); (.mk 57 0 [] r.1, r.2)
def stmtsP : Nat → List Nd → PS → List Nd × PS
 | 0, acc, σ => (acc, σ)
 | k + 1, acc, σ =>
  if σ.err ≠ 0 then (acc, σ)
  else if hasP ts σ [125] then (acc, nextP σ)
  else stmtsP k (acc ++ [(stmtP k σ).1]) (expectP ts n (stmtP k σ).2 [59])
end
def declP (σ : PS) : VD × PS :=
 if hasP ts σ [105, 110, 116] then (⟨(nameP ts n (nextP σ)).1, 1, 0⟩, (nameP ts n (nextP σ)).2)
 else if hasP ts σ [115, 116, 97, 99, 107] then (⟨(nameP ts n (nextP σ)).1, 3, 0⟩, (nameP ts n (nextP σ)).2)
 else if hasP ts σ [97, 114, 114, 97, 121] then
  let m := nameP ts n (nextP σ)
  let r := numberP ts n 1 16 (expectP ts n m.2 [91])
  (⟨m.1, 2, r.1⟩, expectP ts n r.2 [93])
 else (⟨[], 0, 0⟩, unexpP ts n σ)
def atDeclP (σ : PS) : Bool := hasP ts σ [105, 110, 116] || hasP ts σ [97, 114, 114, 97, 121] || hasP ts σ [115, 116, 97, 99, 107]
def paramsP : Nat → List VD → PS → List VD × PS
 | 0, acc, σ => (acc, σ)
 | k + 1, acc, σ =>
  if hasP ts σ [44] then
   let σ1 := if acc.length = 8 ∧ atDeclP ts (nextP σ) = true then failP (nextP σ) (peekP ts (nextP σ)).pos 5 else nextP σ
   paramsP k (acc ++ [(declP ts n σ1).1]) (declP ts n σ1).2
  else (acc, σ)
end
mutual
def Nd.depth : Nd → Int
 | .mk _ _ _ l => rowDepth l + 1
def rowDepth : List Nd → Int
 | [] => 0
 | t :: r => max t.depth (rowDepth r)
end
section
variable (ts : List Tok) (n : Int)
def limitP (x : Nd) (off : Int) (σ : PS) : PS := if σ.err ≠ 0 then σ else if 80 < x.depth then failP σ off 19 else if 2000 < x.size then failP σ off 5 else σ
def bodyP (k : Nat) (σ : PS) : Nd × PS := ((blockP ts n k σ).1, limitP (blockP ts n k σ).1 (peekP ts σ).pos (blockP ts n k σ).2)
def procP (k : Nat) (σ : PS) : PD × PS :=
 let m := nameP ts n (expectP ts n σ [112, 114, 111, 99])
 let σ1 := expectP ts n m.2 [40]
 let q := if hasP ts σ1 [41] then ([], nextP σ1) else
  let d := declP ts n σ1
  let r := paramsP ts n k [d.1] d.2
  (r.1, expectP ts n r.2 [41])
 let b := bodyP ts n k q.2
 (⟨m.1, q.1, b.1⟩, b.2)
def varsP : Nat → List VD → PS → List VD × PS
 | 0, acc, σ => (acc, σ)
 | k + 1, acc, σ =>
  if atDeclP ts σ then
   let σ1 := if acc.length = 32 then failP σ (peekP ts σ).pos 5 else σ
   varsP k (acc ++ [(declP ts n σ1).1]) (declP ts n σ1).2
  else (acc, σ)
def procsP : Nat → List PD → PS → List PD × PS
 | 0, acc, σ => (acc, σ)
 | k + 1, acc, σ =>
  if hasP ts σ [112, 114, 111, 99] then
   let σ1 := if acc.length = 64 then failP σ (peekP ts σ).pos 5 else σ
   procsP k (acc ++ [(procP ts n k σ1).1]) (procP ts n k σ1).2
  else (acc, σ)
def programP (k : Nat) (σ : PS) : PG × PS :=
 let v := varsP ts n k [] σ
 let p := procsP ts n k [] v.2
 let b := bodyP ts n k (expectP ts n p.2 [109, 97, 105, 110])
 (⟨v.1, p.1, b.1⟩, b.2)
def finishP (σ : PS) : PS := if σ.at_ < ts.length then unexpP ts n σ else σ
def linesP : Nat → List Nd → PS → List Nd × PS
 | 0, acc, σ => (acc, σ)
 | k + 1, acc, σ => if σ.err = 0 ∧ σ.at_ < ts.length then linesP k (acc ++ [(stmtP ts n k σ).1]) (expectP ts n (stmtP ts n k σ).2 [59]) else (acc, σ)
end
def lexGo : Nat → List UInt8 → Nat → List Tok → List Tok × Option Nat
 | 0, _, _, acc => (acc, none)
 | k + 1, s, p, acc => if p < s.length then
  if (firstTok (s.drop p)).2 = 0 then ([], some p)
  else lexGo k s (p + (firstTok (s.drop p)).2) (acc ++ [⟨((firstTok (s.drop p)).1 : Nat), (s.drop p).take (firstTok (s.drop p)).2, (p : Int)⟩])
  else (acc, none)
def lexT (s : List UInt8) : List Tok × Int × Int :=
 if 65536 < s.length then ([], 0, 5) else match lexGo (s.length + 1) s 0 [] with
  | (l, none) => (l, 0, 0)
  | (_, some p) => ([], (p : Int), 3)
def solidT (l : List Tok) : List Tok := l.filter fun t => decide (t.kind ≠ 4) && decide (t.kind ≠ 5)
def startP (s : List UInt8) : List Tok × PS := (solidT (lexT s).1, ⟨0, (lexT s).2.1, (lexT s).2.2⟩)
def fuelP (s : List UInt8) : Nat := 4 * s.length + 20
def zeroNd : Nd := .mk 0 0 [] []
def parseExpr (s : List UInt8) : Nd × Int × Int :=
 let ts := (startP s).1
 let r := exprP ts s.length (fuelP s) 1 (startP s).2
 let σ := limitP r.1 0 (finishP ts s.length r.2)
 if σ.err ≠ 0 then (zeroNd, σ.off, σ.err) else (r.1, 0, 0)
def parseBlock (s : List UInt8) : Nd × Int × Int :=
 let ts := (startP s).1
 let r := linesP ts s.length (fuelP s) [] (startP s).2
 let x := Nd.mk 57 0 [] r.1
 let σ := limitP x 0 r.2
 if σ.err ≠ 0 then (zeroNd, σ.off, σ.err) else (x, 0, 0)
def parseProgram (s : List UInt8) : PG × Int × Int :=
 let ts := (startP s).1
 let r := programP ts s.length (fuelP s) (startP s).2
 let σ := finishP ts s.length r.2
 if σ.err ≠ 0 then (⟨[], [], zeroNd⟩, σ.off, σ.err) else (r.1, 0, 0)
end Bk
namespace Bk
open Go
section
variable {ts : List Tok} {n : Int}
structure Le (ts : List Tok) (σ σ' : PS) : Prop where
 le : σ.at_ ≤ σ'.at_
 wf : σ'.at_ ≤ ts.length
 err : σ.err ≠ 0 → σ' = σ
def Lt (σ σ' : PS) : Prop := σ'.err = 0 → σ.at_ < σ'.at_
theorem Le.refl {σ : PS} (h : σ.at_ ≤ ts.length) : Le ts σ σ := ⟨Nat.le_refl _, h, fun _ => rfl⟩
theorem Le.trans {a b c : PS} (h : Le ts a b) (k : Le ts b c) : Le ts a c := ⟨Nat.le_trans h.le k.le, k.wf, fun e => by rw [k.err (by rw [h.err e]; exact e), h.err e]⟩
theorem Le.ok {a b : PS} (h : Le ts a b) (e : b.err = 0) : a.err = 0 := by
 rcases Int.lt_trichotomy a.err 0 with h' | h' | h'
 · have := h.err (by omega); rw [this] at e; exact e
 · exact h'
 · have := h.err (by omega); rw [this] at e; exact e
theorem Lt.of_lt {a b c : PS} (h : Lt a b) (k : Le ts b c) : Lt a c := fun e => Nat.lt_of_lt_of_le (h (k.ok e)) k.le
theorem Lt.of_le {a b c : PS} (h : Le ts a b) (k : Lt b c) : Lt a c := fun e => Nat.lt_of_le_of_lt h.le (k e)
theorem peek_err {σ : PS} (h : σ.err ≠ 0) : peekP ts σ = Tok.zero := by unfold peekP; rw [if_pos (Or.inl h)]
theorem peek_end {σ : PS} (h : σ.at_ = ts.length) : peekP ts σ = Tok.zero := by unfold peekP; rw [if_pos (Or.inr h)]
theorem peek_in {σ : PS} (hw : σ.at_ ≤ ts.length) (h : (peekP ts σ).text ≠ [] ∨ (peekP ts σ).kind ≠ 0) : σ.err = 0 ∧ σ.at_ < ts.length := by
 by_cases h1 : σ.err = 0
 · by_cases h2 : σ.at_ = ts.length
   · rw [peek_end h2] at h; simp [Tok.zero] at h
   · exact ⟨h1, by omega⟩
 · rw [peek_err h1] at h; simp [Tok.zero] at h
theorem has_in {σ : PS} {t : List UInt8} (hw : σ.at_ ≤ ts.length) (h : hasP ts σ t = true) (ht : t ≠ []) : σ.err = 0 ∧ σ.at_ < ts.length := by
 unfold hasP at h
 have := of_decide_eq_true h
 exact peek_in hw (Or.inl (by rw [this]; exact ht))
theorem next_le {σ : PS} (h : σ.err = 0 ∧ σ.at_ < ts.length) : Le ts σ (nextP σ) := ⟨Nat.le_succ _, h.2, fun e => absurd h.1 e⟩
theorem next_lt {σ : PS} : Lt σ (nextP σ) := fun _ => Nat.lt_succ_self _
theorem fail_le {σ : PS} (h : σ.at_ ≤ ts.length) (off e : Int) : Le ts σ (failP σ off e) := by
 unfold failP
 split
 · rename_i h0; exact ⟨Nat.le_refl _, h, fun e => absurd h0 e⟩
 · exact Le.refl h
theorem fail_err {σ : PS} {off e : Int} (he : e ≠ 0) : (failP σ off e).err ≠ 0 := by
 unfold failP
 split
 · exact he
 · assumption
theorem unexp_le {σ : PS} (h : σ.at_ ≤ ts.length) : Le ts σ (unexpP ts n σ) := by
 unfold unexpP; split <;> exact fail_le h _ _
theorem unexp_err {σ : PS} : (unexpP ts n σ).err ≠ 0 := by
 unfold unexpP; split <;> exact fail_err (by decide)
theorem unexp_lt {σ : PS} : Lt σ (unexpP ts n σ) := fun e => absurd e unexp_err
theorem expect_le {σ : PS} {t : List UInt8} (h : σ.at_ ≤ ts.length) (ht : t ≠ []) : Le ts σ (expectP ts n σ t) := by
 unfold expectP
 split
 · rename_i hh; exact next_le (has_in h hh ht)
 · exact unexp_le h
theorem expect_lt {σ : PS} {t : List UInt8} : Lt σ (expectP ts n σ t) := by
 unfold expectP
 split
 · exact next_lt
 · exact unexp_lt
theorem isName_ne {s : List UInt8} (h : isName s = true) : s ≠ [] := by
 intro e; subst e; simp [isName] at h
theorem name_le {σ : PS} (h : σ.at_ ≤ ts.length) : Le ts σ (nameP ts n σ).2 := by
 unfold nameP
 split
 · rename_i hh; exact next_le (peek_in h (Or.inl (isName_ne hh)))
 · exact unexp_le h
theorem name_lt {σ : PS} : Lt σ (nameP ts n σ).2 := by
 unfold nameP
 split
 · exact next_lt
 · exact unexp_lt
theorem number_le {σ : PS} {a b : Int} (h : σ.at_ ≤ ts.length) : Le ts σ (numberP ts n a b σ).2 := by
 unfold numberP
 split
 · rename_i hh
   have hn := peek_in h (Or.inr (by rw [hh]; decide))
   split
   · exact next_le hn
   · exact (next_le hn).trans (fail_le (next_le hn).wf _ _)
 · exact unexp_le h
theorem number_lt {σ : PS} {a b : Int} : Lt σ (numberP ts n a b σ).2 := by
 unfold numberP
 split
 · split
   · exact next_lt
   · exact fun e => absurd e (fail_err (by decide))
 · exact unexp_lt
theorem binOf_ne {t : List UInt8} {op : Int} (h : binOf t = some op) : t ≠ [] ∧ 8 ≤ op ∧ op ≤ 23 ∧ symbol op = t := by
 unfold binOf at h
 have h1 := List.find?_some h; have h2 := List.mem_of_find?_eq_some h; have h3 := of_decide_eq_true h1; simp only [List.mem_cons, List.not_mem_nil, or_false] at h2; refine ⟨?_, by omega, by omega, h3⟩; rintro rfl
 rcases h2 with rfl | rfl | rfl | rfl | rfl | rfl | rfl | rfl | rfl | rfl | rfl | rfl | rfl | rfl | rfl | rfl <;> exact absurd h3 (by decide)
theorem expr_inv (k : Nat) : (∀ lv σ, σ.at_ ≤ ts.length → Le ts σ (exprP ts n k lv σ).2 ∧ (4 ≤ k → Lt σ (exprP ts n k lv σ).2)) ∧ (∀ lv x σ, σ.at_ ≤ ts.length → Le ts σ (climbP ts n k lv x σ).2) ∧
 (∀ σ, σ.at_ ≤ ts.length → Le ts σ (unaryP ts n k σ).2 ∧ (3 ≤ k → Lt σ (unaryP ts n k σ).2)) ∧ (∀ σ, σ.at_ ≤ ts.length → Le ts σ (primaryP ts n k σ).2 ∧ (2 ≤ k → Lt σ (primaryP ts n k σ).2)) ∧
 (∀ σ, σ.at_ ≤ ts.length → Le ts σ (placeP ts n k σ).2 ∧ (1 ≤ k → Lt σ (placeP ts n k σ).2)) := by
 induction k with
 | zero =>
  refine ⟨fun lv σ h => ⟨?_, fun h => by omega⟩, fun lv x σ h => ?_, fun σ h => ⟨?_, fun h => by omega⟩, fun σ h => ⟨?_, fun h => by omega⟩, fun σ h => ⟨?_, fun h => by omega⟩⟩
  · rw [exprP]; exact Le.refl h
  · rw [climbP]; exact Le.refl h
  · rw [unaryP]; exact Le.refl h
  · rw [primaryP]; exact Le.refl h
  · rw [placeP]; exact Le.refl h
 | succ k ih =>
  obtain ⟨iE, iC, iU, iP, iL⟩ := ih; refine ⟨fun lv σ h => ?_, fun lv x σ h => ?_, fun σ h => ?_, fun σ h => ?_, fun σ h => ?_⟩
  · rw [exprP]
    have hu := iU σ h; have hc := iC lv (unaryP ts n k σ).1 (unaryP ts n k σ).2 hu.1.wf
    exact ⟨hu.1.trans hc, fun hk => (hu.2 (by omega)).of_lt hc⟩
  · rw [climbP]
    split
    · exact Le.refl h
    · rename_i op hop
      obtain ⟨hne, -⟩ := binOf_ne hop; have hn := peek_in h (Or.inl hne)
      split
      · exact Le.refl h
      · have h1 := next_le hn
        have h2 := iE (level op + 1) (nextP σ) h1.wf
        exact (h1.trans h2.1).trans (iC _ _ _ h2.1.wf)
  · rw [unaryP]
    split
    · rename_i hh
      have hn := has_in h hh (by decide); have h1 := next_le hn; have h2 := iU (nextP σ) h1.wf
      exact ⟨h1.trans h2.1, fun _ => next_lt.of_lt h2.1⟩
    · split
      · rename_i hh
        have hn := has_in h hh (by decide); have h1 := next_le hn; have h2 := iU (nextP σ) h1.wf
        exact ⟨h1.trans h2.1, fun _ => next_lt.of_lt h2.1⟩
      · exact ⟨(iP σ h).1, fun hk => (iP σ h).2 (by omega)⟩
  · rw [primaryP]
    split
    · exact ⟨number_le h, fun _ => number_lt⟩
    · split
      · rename_i hh
        have hn := has_in h hh (by decide); have h1 := next_le hn; have h2 := h1.trans (expect_le (n := n) (t := [40]) h1.wf (by decide)); have h3 := h2.trans (name_le (n := n) h2.wf); have h4 := h3.trans (expect_le (n := n) (t := [41]) h3.wf (by decide))
        exact ⟨h4, fun _ => Lt.of_le (ts := ts) h3 expect_lt⟩
      · split
        · rename_i hh
          have hn := has_in h hh (by decide); have h1 := next_le hn; have h2 := h1.trans (expect_le (n := n) (t := [40]) h1.wf (by decide)); have h3 := h2.trans (name_le (n := n) h2.wf); have h4 := h3.trans (expect_le (n := n) (t := [41]) h3.wf (by decide))
          exact ⟨h4, fun _ => Lt.of_le (ts := ts) h3 expect_lt⟩
        · split
          · rename_i hh
            have hn := has_in h hh (by decide); have h1 := next_le hn; have h2 := h1.trans (iE 1 (nextP σ) h1.wf).1
            exact ⟨h2.trans (expect_le h2.wf (by decide)), fun _ => Lt.of_le (ts := ts) h2 expect_lt⟩
          · exact ⟨(iL σ h).1, fun hk => (iL σ h).2 (by omega)⟩
  · rw [placeP]
    have h0 := name_le (n := n) h
    split
    · rename_i hh
      have hn := has_in h0.wf hh (by decide); have h1 := h0.trans (next_le hn); have h2 := h1.trans (iE 1 _ h1.wf).1
      exact ⟨h2.trans (expect_le h2.wf (by decide)), fun _ => Lt.of_le (ts := ts) h2 expect_lt⟩
    · exact ⟨h0, fun _ => name_lt⟩
end
end Bk
namespace Bk
open Go Go.RowKit Go.Proofs
attribute [local irreducible] Go.Calls
structure PC where
 pb : Nat
 B : Nat
 ts : List Tok
 n : Int
 a : Option Addr
 cap : Nat
 r : Nat
abbrev Tok.cells (t : Tok) : List Value := [.int .u8 t.kind, str t.text, .int .i64 t.pos]
abbrev Tok.val (t : Tok) : Value := .agg #[.int .u8 t.kind, str t.text, .int .i64 t.pos]
def TokAt (w : World) (b o : Nat) (t : Tok) : Prop := Row w ⟨b, o, none⟩ t.cells
def binMap : List (List UInt8 × Value) := [8, 9, 10, 11, 12, 13, 14, 15, 16, 17, 18, 19, 20, 21, 22, 23].map fun k => (symbol k, .int .u8 k)
abbrev PC.cells (c : PC) (σ : PS) : List Value := [.slice c.a c.ts.length c.cap, .int .i64 σ.at_, .int .i64 c.n, .map (some c.r), .int .i64 σ.off, .int .i64 σ.err]
structure Errs (w : World) : Prop where
 ex : ∃ te pe, w.cell? ⟨4, 0, none⟩ = some (.iface te pe)
theorem Errs.ext {w w' : World} (h : Errs w) (x : Ext w w') : Errs w' := by
 obtain ⟨te, pe, h⟩ := h.ex
 exact ⟨te, pe, x.keep h⟩
theorem Errs.fr {S : Nat → Prop} {w w' : World} (h : Errs w) (x : Fr S w w') (hs : ¬ S 4) : Errs w' := by
 obtain ⟨te, pe, h⟩ := h.ex
 exact ⟨te, pe, x.keep hs h⟩
structure PP (c : PC) (σ : PS) (w : World) : Prop where
 blk : Blk w c.pb (c.cells σ)
 toks : Arr (fun b => b < c.B ∧ b ≠ c.pb) 3 TokAt w c.ts c.a
 map : MapIs w c.r binMap
 pbB : c.pb < c.B
 rB : c.r < c.B
 rne : c.r ≠ c.pb
 B : c.B ≤ w.heap.size
 at_ : σ.at_ ≤ c.ts.length
 len : c.ts.length ≤ 1000000
 tok : ∀ t ∈ c.ts, t.text.length ≤ 1000000
 num : ∀ t ∈ c.ts, t.kind = 2 → t.text ≠ [] ∧ ∀ x ∈ t.text, digit x = true
 errs : Errs w
 gl : 4 < c.pb
theorem PP.ext {c : PC} {σ : PS} {w w' : World} (h : PP c σ w) (x : Ext w w') : PP c σ w' :=
 ⟨h.blk.ext x, h.toks.mono (fun _ h => h) (fun _ _ _ _ _ h => Row.ext h x), h.map.ext x, h.pbB, h.rB, h.rne, Nat.le_trans h.B x.size, h.at_, h.len, h.tok, h.num, h.errs.ext x, h.gl⟩
theorem PP.fr {c : PC} {σ : PS} {S : Nat → Prop} {w w' : World} (h : PP c σ w) (x : Fr S w w') (hs : ∀ k, S k → c.B ≤ k) : PP c σ w' :=
 ⟨h.blk.fr x (fun e => by have := hs _ e; have := h.pbB; omega), h.toks.mono (fun _ h => h) (fun b _ _ _ hb h => Row.fr h x (fun e => by have h1 := hs _ e; have h2 := hb.1; have h3 : c.B ≤ b := h1; omega)), h.map.fr x (fun e => by have := hs _ e; have := h.rB; omega), h.pbB, h.rB, h.rne, Nat.le_trans h.B x.size, h.at_, h.len, h.tok, h.num, h.errs.fr x (fun e => by have := hs _ e; have := h.gl; have := h.pbB; omega), h.gl⟩
theorem PP.put {c : PC} {σ σ' : PS} {w w' : World} (h : PP c σ w) (p : Put w w' c.pb (c.cells σ')) (ha : σ'.at_ ≤ c.ts.length) : PP c σ' w' :=
 ⟨p.blk, h.toks.mono (fun _ h => h) (fun b _ _ _ hb h => Row.fr h p.fr (fun e => hb.2 e)), h.map.fr p.fr (fun e => h.rne e), h.pbB, h.rB, h.rne, Nat.le_trans h.B p.fr.size, ha, h.len, h.tok, h.num, h.errs.fr p.fr (fun e => by have := h.gl; have e' : 4 = c.pb := e; omega), h.gl⟩
section
variable {P : Program} {n : Nat} {ops : Array Oper} {Q : Exit → Act → World → Prop} {rest : List Oper} {l : Sl} {w : World} {tab : Tab} {ty : TypeId} {pos : String} {after : Array Edge}
theorem lw_pp {c : PC} {σ σ' : PS} {x y : Operand} {t sz o : Nat} {s : Sk} {v : Value} (T : TabOk P tab) (ht : lookT tab t = some (s, sz)) (hsz : sz = 1) (hx : ev l x = some (.pointer (some ⟨c.pb, o, none⟩))) (hy : ev l y = some v) (hv : v.cells = #[v]) (h1 : Value.one v = true) (hP : PP c σ w) (ho : Nat.ble (o + 1) 6 = true)
 (he : (c.cells σ).set o v = c.cells σ') (ha : σ'.at_ ≤ c.ts.length) (k : ∀ w1, PP c σ' w1 → Fr (· = c.pb) w w1 → LW P n ops Q rest l w1) : LW P n ops Q (⟨none, .store t x y, ty, pos, after, none⟩ :: rest) l w :=
 lw_store T ht hx hy (us := [v]) hv (by simp [hsz]) (by simp [h1]) hP.blk (by simpa using ho) (fun w1 p => by
  have e : setMany (c.cells σ) o [v] = c.cells σ' := by simp only [setMany]; exact he
  rw [e] at p
  exact k w1 (hP.put p ha) p.fr)
theorem lw_pp_at {c : PC} {σ : PS} {x y : Operand} {t sz : Nat} {s : Sk} (T : TabOk P tab) (ht : lookT tab t = some (s, sz)) (hsz : sz = 1) (hx : ev l x = some (.pointer (some ⟨c.pb, 1, none⟩))) (hy : ev l y = some (.int .i64 ((σ.at_ : Int) + 1))) (hP : PP c σ w) (ha : σ.at_ < c.ts.length)
 (k : ∀ w1, PP c (nextP σ) w1 → Fr (· = c.pb) w w1 → LW P n ops Q rest l w1) : LW P n ops Q (⟨none, .store t x y, ty, pos, after, none⟩ :: rest) l w :=
 lw_pp (σ' := nextP σ) T ht hsz hx hy rfl rfl hP rfl rfl ha k
theorem lw_pp_off {c : PC} {σ : PS} {x y : Operand} {t sz : Nat} {s : Sk} {v : Int} (T : TabOk P tab) (ht : lookT tab t = some (s, sz)) (hsz : sz = 1) (hx : ev l x = some (.pointer (some ⟨c.pb, 4, none⟩))) (hy : ev l y = some (.int .i64 v)) (hP : PP c σ w)
 (k : ∀ w1, PP c ⟨σ.at_, v, σ.err⟩ w1 → Fr (· = c.pb) w w1 → LW P n ops Q rest l w1) : LW P n ops Q (⟨none, .store t x y, ty, pos, after, none⟩ :: rest) l w :=
 lw_pp (σ' := ⟨σ.at_, v, σ.err⟩) T ht hsz hx hy rfl rfl hP rfl rfl hP.at_ k
theorem lw_pp_err {c : PC} {σ : PS} {x y : Operand} {t sz : Nat} {s : Sk} {v : Int} (T : TabOk P tab) (ht : lookT tab t = some (s, sz)) (hsz : sz = 1) (hx : ev l x = some (.pointer (some ⟨c.pb, 5, none⟩))) (hy : ev l y = some (.int .i64 v)) (hP : PP c σ w)
 (k : ∀ w1, PP c ⟨σ.at_, σ.off, v⟩ w1 → Fr (· = c.pb) w w1 → LW P n ops Q rest l w1) : LW P n ops Q (⟨none, .store t x y, ty, pos, after, none⟩ :: rest) l w :=
 lw_pp (σ' := ⟨σ.at_, σ.off, v⟩) T ht hsz hx hy rfl rfl hP rfl rfl hP.at_ k
end
theorem peek_off {ts : List Tok} {σ : PS} (h : σ.err ≠ 0 ∨ σ.at_ = ts.length) : peekP ts σ = Tok.zero := by unfold peekP; rw [if_pos h]
theorem peek_is {ts : List Tok} {σ : PS} (h : ¬ (σ.err ≠ 0 ∨ σ.at_ = ts.length)) (hl : σ.at_ < ts.length) : peekP ts σ = ts[σ.at_] := by unfold peekP; rw [if_neg h]; simp [hl]
set_option maxRecDepth 100000 in
set_option maxHeartbeats 1000000 in
theorem peek_c (c : PC) (σ : PS) (w : World) (hP : PP c σ w) :
 Calls Tryz.prog 60 #[.pointer (some ⟨c.pb, 0, none⟩)] w fun e w' => e = .returned (peekP c.ts σ).val ∧ Ext w w' := by
 have hat := hP.at_; have X := Ext.refl w
 by_cases h : σ.err ≠ 0 ∨ σ.at_ = c.ts.length
 · rw [peek_off h]
   by_cases he : σ.err = 0
   · have ha : σ.at_ = c.ts.length := h.resolve_left (fun e => e he)
     refine calls_in Tryz.func60 Tryz.ntmps60 rfl rfl ?_
     focus
      refine cS ?_; (refine lw_alloc' [_, _, _] zOk rfl rfl ?_; intro b1 w2 n3); have h5 := n3.blk; have x6 := n3.ext; have p7 := n3.pos; have z8 := n3.size; clear n3; replace hP := hP.ext x6; replace X := X.ext x6; clear x6; refine cT (cw_seq (cw_seq ?_)); (refine cw_tdraw (fun wz => Ext w2 wz) 15 (.pure 0 (.pure 1 (.pure 2 (.pure 3 (.pure 4 (.pure 5 (.pure 6 (.pure 7 (.pure 8 (.pure 9 (.pure 10 (.pure 11 (.pure 12 (.pure 13 (.pure 14 .tail))))))))))))))) mixed (by kernel_rfl) (panicOk_then (panicOk_then panicOk_body)) ?_; intro w9 x10 _); have qs11 : (fun wz => Ext w2 wz) w9 := x10; simp only at qs11; have d_h5 := h5; have d_hP := hP; have z12 := x10.size; replace h5 := h5.ext x10; replace hP := hP.ext x10; replace X := X.ext x10; clear x10; refine ⟨qs11, ?_⟩; refine tw_pure rfl (pur_move rfl) rfl (tw_pure rfl (pur_nilCheck rfl) rfl (tw_pure rfl (pur_fieldAddr tabOk rfl rfl rfl) rfl (tw_pure rfl (pur_load tabOk rfl rfl rfl (fun wz hz => Blk.cell (Blk.ext (PP.blk d_hP) hz) rfl)) rfl (tw_pure rfl (pur_neq rfl rfl) rfl (tw_pure rfl (pur_move rfl) rfl ?_))))); refine tw_on rfl rfl rfl rfl (gd_ff (by omega)) (pur_move rfl) rfl ?_; refine tw_on rfl rfl rfl rfl (gd_ff (by omega)) (pur_nilCheck rfl) rfl ?_; refine tw_on rfl rfl rfl rfl (gd_ff (by omega)) (pur_fieldAddr tabOk rfl rfl rfl) rfl ?_; refine tw_on rfl rfl rfl rfl (gd_ff (by omega)) (pur_load tabOk rfl rfl rfl (fun wz hz => Blk.cell (Blk.ext (PP.blk d_hP) hz) rfl)) rfl ?_; refine tw_on rfl rfl rfl rfl (gd_ff (by omega)) (pur_move rfl) rfl ?_
      refine tw_on rfl rfl rfl rfl (gd_ff (by omega)) (pur_nilCheck rfl) rfl ?_; refine tw_on rfl rfl rfl rfl (gd_ff (by omega)) (pur_fieldAddr0 tabOk rfl rfl rfl) rfl ?_; refine tw_on rfl rfl rfl rfl (gd_ff (by omega)) (pur_load tabOk rfl rfl rfl (fun wz hz => Blk.cell (Blk.ext (PP.blk d_hP) hz) rfl)) rfl ?_; refine tw_on rfl rfl rfl rfl (gd_ff (by omega)) (pur_len_slice tabOk rfl rfl) rfl ?_; clear qs11 d_h5 d_hP; refine tw_tail rfl ?_; refine lw_on rfl rfl rfl (gd_ff (by omega)) ?_; refine lw_pure (pur_eql rfl rfl) rfl ?_; refine lw_pure (pur_pick_no rfl rfl (by omega)) rfl ?_; refine cT ?_; refine cw_yes rfl (by omega) ?_; refine cS (lw_pure (pur_build' [_, _, _] tabOk zOk rfl rfl rfl rfl) rfl ?_); (refine lw_store' [_, _, _] [_, _, _] tabOk rfl rfl rfl rfl rfl rfl h5 rfl rfl ?_; intro w13 n14); have h17 := n14.blk; have f15 := n14.fr; have z16 := n14.size; clear n14 h5 hP; replace X := X.fr f15 (by omega); clear f15; refine cT (cw_ret (qw_then_ret (qw_retc rfl tabOk rfl rfl rfl h17 rfl ?_))); rotate_left 1
     exact ⟨rfl, X⟩
   · refine calls_in Tryz.func60 Tryz.ntmps60 rfl rfl ?_
     focus
      refine cS ?_; (refine lw_alloc' [_, _, _] zOk rfl rfl ?_; intro ba1 wa2 na3); have ha5 := na3.blk; have xa6 := na3.ext; have pa7 := na3.pos; have za8 := na3.size; clear na3; replace hP := hP.ext xa6; replace X := X.ext xa6; clear xa6; refine cT (cw_seq (cw_seq ?_)); (refine cw_tdraw (fun wz => Ext wa2 wz) 15 (.pure 0 (.pure 1 (.pure 2 (.pure 3 (.pure 4 (.pure 5 (.pure 6 (.pure 7 (.pure 8 (.pure 9 (.pure 10 (.pure 11 (.pure 12 (.pure 13 (.pure 14 .tail))))))))))))))) mixed (by kernel_rfl) (panicOk_then (panicOk_then panicOk_body)) ?_; intro wa9 xa10 _); have qsa11 : (fun wz => Ext wa2 wz) wa9 := xa10; simp only at qsa11; have d_ha5 := ha5; have d_hP := hP; have za12 := xa10.size; replace ha5 := ha5.ext xa10; replace hP := hP.ext xa10; replace X := X.ext xa10; clear xa10; refine ⟨qsa11, ?_⟩; refine tw_pure rfl (pur_move rfl) rfl (tw_pure rfl (pur_nilCheck rfl) rfl (tw_pure rfl (pur_fieldAddr tabOk rfl rfl rfl) rfl (tw_pure rfl (pur_load tabOk rfl rfl rfl (fun wz hz => Blk.cell (Blk.ext (PP.blk d_hP) hz) rfl)) rfl (tw_pure rfl (pur_neq rfl rfl) rfl (tw_pure rfl (pur_move rfl) rfl ?_))))); refine tw_off rfl rfl rfl rfl (gd_ft (by assumption)) rfl ?_; refine tw_off rfl rfl rfl rfl (gd_ft (by assumption)) rfl ?_; refine tw_off rfl rfl rfl rfl (gd_ft (by assumption)) rfl ?_; refine tw_off rfl rfl rfl rfl (gd_ft (by assumption)) rfl ?_; refine tw_off rfl rfl rfl rfl (gd_ft (by assumption)) rfl ?_; refine tw_off rfl rfl rfl rfl (gd_ft (by assumption)) rfl ?_; refine tw_off rfl rfl rfl rfl (gd_ft (by assumption)) rfl ?_
      refine tw_off rfl rfl rfl rfl (gd_ft (by assumption)) rfl ?_; refine tw_off rfl rfl rfl rfl (gd_ft (by assumption)) rfl ?_; clear qsa11 d_ha5 d_hP; refine tw_tail rfl ?_; refine lw_off rfl rfl rfl (gd_ft (by assumption)) rfl ?_; refine lw_pure (pur_pick_yes rfl rfl (by assumption)) rfl ?_; refine cT (cw_cond_t rfl (cS (lw_pure (pur_build' [_, _, _] tabOk zOk rfl rfl rfl rfl) rfl ?_))); (refine lw_store' [_, _, _] [_, _, _] tabOk rfl rfl rfl rfl rfl rfl ha5 rfl rfl ?_; intro wa13 na14); have ha17 := na14.blk; have fa15 := na14.fr; have za16 := na14.size; clear na14 ha5 hP; replace X := X.fr fa15 (by omega); clear fa15; refine cT (cw_ret (qw_then_ret (qw_retc rfl tabOk rfl rfl rfl ha17 rfl ?_))); rotate_left 1
     exact ⟨rfl, X⟩
 · have he : σ.err = 0 := Decidable.byContradiction fun e => h (Or.inl e)
   have hlt : σ.at_ < c.ts.length := by have : σ.at_ ≠ c.ts.length := fun e => h (Or.inr e); omega
   rw [peek_is h hlt]; obtain ⟨tb, tof, hta, -, hrow⟩ := hP.toks.get (by omega); have hr : Row w ⟨tb, tof + σ.at_ * 3, none⟩ c.ts[σ.at_].cells := hrow σ.at_ _ (List.getElem?_eq_getElem hlt); clear hrow; refine calls_in Tryz.func60 Tryz.ntmps60 rfl rfl ?_
   focus
    refine cS ?_; (refine lw_alloc' [_, _, _] zOk rfl rfl ?_; intro bb1 wb2 nb3); have hb5 := nb3.blk; have xb6 := nb3.ext; have pb7 := nb3.pos; have zb8 := nb3.size; clear nb3; replace hP := hP.ext xb6; replace X := X.ext xb6; replace hr := hr.ext xb6; clear xb6; refine cT (cw_seq (cw_seq ?_)); (refine cw_tdraw (fun wz => Ext wb2 wz) 15 (.pure 0 (.pure 1 (.pure 2 (.pure 3 (.pure 4 (.pure 5 (.pure 6 (.pure 7 (.pure 8 (.pure 9 (.pure 10 (.pure 11 (.pure 12 (.pure 13 (.pure 14 .tail))))))))))))))) mixed (by kernel_rfl) (panicOk_then (panicOk_then panicOk_body)) ?_; intro wb9 xb10 _); have qsb11 : (fun wz => Ext wb2 wz) wb9 := xb10; simp only at qsb11; have d_hb5 := hb5; have d_hP := hP; have d_hr := hr; have zb12 := xb10.size; replace hb5 := hb5.ext xb10; replace hP := hP.ext xb10; replace X := X.ext xb10; replace hr := hr.ext xb10; clear xb10; refine ⟨qsb11, ?_⟩; refine tw_pure rfl (pur_move rfl) rfl (tw_pure rfl (pur_nilCheck rfl) rfl (tw_pure rfl (pur_fieldAddr tabOk rfl rfl rfl) rfl (tw_pure rfl (pur_load tabOk rfl rfl rfl (fun wz hz => Blk.cell (Blk.ext (PP.blk d_hP) hz) rfl)) rfl (tw_pure rfl (pur_neq rfl rfl) rfl (tw_pure rfl (pur_move rfl) rfl ?_))))); refine tw_on rfl rfl rfl rfl (gd_ff (by omega)) (pur_move rfl) rfl ?_; refine tw_on rfl rfl rfl rfl (gd_ff (by omega)) (pur_nilCheck rfl) rfl ?_; refine tw_on rfl rfl rfl rfl (gd_ff (by omega)) (pur_fieldAddr tabOk rfl rfl rfl) rfl ?_; refine tw_on rfl rfl rfl rfl (gd_ff (by omega)) (pur_load tabOk rfl rfl rfl (fun wz hz => Blk.cell (Blk.ext (PP.blk d_hP) hz) rfl)) rfl ?_
    refine tw_on rfl rfl rfl rfl (gd_ff (by omega)) (pur_move rfl) rfl ?_; refine tw_on rfl rfl rfl rfl (gd_ff (by omega)) (pur_nilCheck rfl) rfl ?_; refine tw_on rfl rfl rfl rfl (gd_ff (by omega)) (pur_fieldAddr0 tabOk rfl rfl rfl) rfl ?_; refine tw_on rfl rfl rfl rfl (gd_ff (by omega)) (pur_load tabOk rfl rfl rfl (fun wz hz => Blk.cell (Blk.ext (PP.blk d_hP) hz) rfl)) rfl ?_; refine tw_on rfl rfl rfl rfl (gd_ff (by omega)) (pur_len_slice tabOk rfl rfl) rfl ?_; clear qsb11 d_hb5 d_hP d_hr; refine tw_tail rfl ?_; refine lw_on rfl rfl rfl (gd_ff (by omega)) ?_; refine lw_pure (pur_eql rfl rfl) rfl ?_; refine lw_pure (pur_pick_no rfl rfl (by omega)) rfl ?_; refine cT ?_; refine cw_no rfl (by omega) ?_; refine cw_skip (qw_then (cw_seq ?_)); (refine cw_tdraw (fun wz => Ext wb9 wz) 8 (.pure 0 (.pure 1 (.pure 2 (.pure 3 (.pure 4 (.pure 5 (.pure 6 (.pure 7 .tail)))))))) mixed (by kernel_rfl) (panicOk_then panicOk_body) ?_; intro wb13 xb14 _); have qsb15 : (fun wz => Ext wb9 wz) wb13 := xb14; simp only at qsb15; have d_hb5 := hb5; have d_hP := hP; have d_hr := hr; have zb16 := xb14.size; replace hb5 := hb5.ext xb14; replace hP := hP.ext xb14; replace X := X.ext xb14; replace hr := hr.ext xb14; clear xb14; refine ⟨qsb15, ?_⟩; refine tw_pure rfl (pur_move rfl) rfl (tw_pure rfl (pur_nilCheck rfl) rfl (tw_pure rfl (pur_fieldAddr0 tabOk rfl rfl rfl) rfl (tw_pure rfl (pur_load tabOk rfl rfl rfl (fun wz hz => Blk.cell (Blk.ext (PP.blk d_hP) hz) rfl)) rfl (tw_pure rfl (pur_move rfl) rfl (tw_pure rfl (pur_nilCheck rfl) rfl (tw_pure rfl (pur_fieldAddr tabOk rfl rfl rfl) rfl (tw_pure rfl (pur_load tabOk rfl rfl rfl (fun wz hz => Blk.cell (Blk.ext (PP.blk d_hP) hz) rfl)) rfl ?_)))))))
    clear qsb15 d_hb5 d_hP d_hr; refine tw_tail rfl ?_; refine lw_pure (pur_indexAddr_eq tabOk rfl rfl rfl (by assumption) rfl (by omega) (by omega)) rfl ?_; refine lw_loads_r0 tabOk rfl rfl rfl hr rfl rfl ?_; (refine lw_store' [_, _, _] [_, _, _] tabOk rfl rfl rfl rfl rfl rfl hb5 rfl rfl ?_; intro wb17 nb18); have hb21 := nb18.blk; have fb19 := nb18.fr; have zb20 := nb18.size; clear nb18 hb5 hP; replace X := X.fr fb19 (by omega); clear hr fb19; refine cT (cw_ret (qw_retc rfl tabOk rfl rfl rfl hb21 rfl ?_)); rotate_left 1
   exact ⟨rfl, X⟩
set_option maxRecDepth 100000 in
set_option maxHeartbeats 1000000 in
theorem fail_c (c : PC) (σ : PS) (off e : Int) (w : World) (hP : PP c σ w) :
 Calls Tryz.prog 79 #[.pointer (some ⟨c.pb, 0, none⟩), .int .i64 off, .int .i64 e] w fun r w' => r = .returned (.tuple #[]) ∧ PP c (failP σ off e) w' ∧ Fr (· = c.pb) w w' := by
 have X := Fr.refl (· = c.pb) w
 by_cases he : σ.err = 0
 · rw [show failP σ off e = ⟨σ.at_, off, e⟩ from by simp [failP, he]]
   refine calls_in Tryz.func79 Tryz.ntmps79 rfl rfl ?_
   focus
    refine cS (cM rfl rfl (lw_pure (pur_nilCheck rfl) rfl (lw_pure (pur_fieldAddr tabOk rfl rfl rfl) rfl (lw_load_b tabOk rfl rfl rfl (PP.blk hP) rfl rfl (lw_pure (pur_eql rfl rfl) rfl (cT ?_)))))); refine cw_yes rfl (by assumption) ?_; refine cw_region (cM rfl rfl (cM rfl rfl (cM rfl rfl (cM rfl rfl (lw_pure (pur_nilCheck rfl) rfl (lw_pure (pur_fieldAddr tabOk rfl rfl rfl) rfl (lw_pp_off tabOk rfl rfl rfl rfl hP ?_))))))); rintro w1 h2 f3; have z4 := f3.size; clear hP; replace X := X.fr f3 (by omega); clear f3; refine lw_pure (pur_nilCheck rfl) rfl (lw_pure (pur_fieldAddr tabOk rfl rfl rfl) rfl ?_); refine lw_pp_err tabOk rfl rfl rfl rfl (by assumption) ?_; rintro w5 h6 f7; have z8 := f7.size; clear h2; replace X := X.fr f7 (by omega); clear f7; refine lw_nil (qw_end0 rfl ?_); rotate_left 1
   exact ⟨rfl, by assumption, X⟩
 · rw [show failP σ off e = σ from by simp [failP, he]]
   refine calls_in Tryz.func79 Tryz.ntmps79 rfl rfl ?_
   focus
    refine cS (cM rfl rfl (lw_pure (pur_nilCheck rfl) rfl (lw_pure (pur_fieldAddr tabOk rfl rfl rfl) rfl (lw_load_b tabOk rfl rfl rfl (PP.blk hP) rfl rfl (lw_pure (pur_eql rfl rfl) rfl (cT ?_)))))); refine cw_no rfl (by assumption) ?_; refine cw_skip (qw_end0 rfl ?_); rotate_left 1
   exact ⟨rfl, hP, X⟩
set_option maxRecDepth 100000 in
set_option maxHeartbeats 1000000 in
theorem unexpected_c (c : PC) (σ : PS) (w : World) (hP : PP c σ w) :
 Calls Tryz.prog 61 #[.pointer (some ⟨c.pb, 0, none⟩)] w fun r w' => r = .returned (.tuple #[]) ∧ PP c (unexpP c.ts c.n σ) w' ∧ Fr (· = c.pb) w w' := by
 have X := Fr.refl (· = c.pb) w
 by_cases hlt : σ.at_ < c.ts.length
 · rw [show unexpP c.ts c.n σ = failP σ (c.ts[σ.at_]).pos 3 from by simp [unexpP, hlt]]
   obtain ⟨tb, tof, hta, -, hrow⟩ := hP.toks.get (by omega); have hr : Row w ⟨tb, tof + σ.at_ * 3, none⟩ c.ts[σ.at_].cells := hrow σ.at_ _ (List.getElem?_eq_getElem hlt); clear hrow; refine calls_in Tryz.func61 Tryz.ntmps61 rfl rfl ?_
   focus
    refine cw_seq ?_; (refine cw_tdraw (fun wz => Ext w wz) 9 (.pure 0 (.pure 1 (.pure 2 (.pure 3 (.pure 4 (.pure 5 (.pure 6 (.pure 7 (.pure 8 .tail))))))))) mixed (by kernel_rfl) (panicOk_then panicOk_body) ?_; intro w1 x2 _); have qs3 : (fun wz => Ext w wz) w1 := x2; simp only at qs3; have d_hP := hP; have d_hr := hr; have z4 := x2.size; replace hP := hP.ext x2; replace X := X.ext x2; replace hr := hr.ext x2; clear x2; refine ⟨qs3, ?_⟩; refine tw_pure rfl (pur_move rfl) rfl (tw_pure rfl (pur_nilCheck rfl) rfl (tw_pure rfl (pur_fieldAddr tabOk rfl rfl rfl) rfl (tw_pure rfl (pur_load tabOk rfl rfl rfl (fun wz hz => Blk.cell (Blk.ext (PP.blk d_hP) hz) rfl)) rfl (tw_pure rfl (pur_move rfl) rfl (tw_pure rfl (pur_nilCheck rfl) rfl (tw_pure rfl (pur_fieldAddr0 tabOk rfl rfl rfl) rfl (tw_pure rfl (pur_load tabOk rfl rfl rfl (fun wz hz => Blk.cell (Blk.ext (PP.blk d_hP) hz) rfl)) rfl (tw_pure rfl (pur_len_slice tabOk rfl rfl) rfl ?_)))))))); clear qs3 d_hP d_hr; refine tw_tail rfl (lw_pure (pur_lss rfl rfl) rfl (cT ?_)); refine cw_yes rfl (by omega) ?_; (refine cw_tdraw (fun wz => Ext w1 wz) 12 (.pure 0 (.pure 1 (.pure 2 (.pure 3 (.pure 4 (.pure 5 (.pure 6 (.pure 7 (.pure 8 (.pure 9 (.pure 10 (.pure 11 .tail)))))))))))) mixed (by kernel_rfl) panicOk_body ?_; intro w5 x6 _); have qs7 : (fun wz => Ext w1 wz) w5 := x6; simp only at qs7; have d_hP := hP; have d_hr := hr; have z8 := x6.size; replace hP := hP.ext x6; replace X := X.ext x6; replace hr := hr.ext x6; clear x6; refine ⟨qs7, ?_⟩
    refine tw_pure rfl (pur_move rfl) rfl (tw_pure rfl (pur_move rfl) rfl (tw_pure rfl (pur_nilCheck rfl) rfl (tw_pure rfl (pur_fieldAddr0 tabOk rfl rfl rfl) rfl (tw_pure rfl (pur_load tabOk rfl rfl rfl (fun wz hz => Blk.cell (Blk.ext (PP.blk d_hP) hz) rfl)) rfl (tw_pure rfl (pur_move rfl) rfl (tw_pure rfl (pur_nilCheck rfl) rfl (tw_pure rfl (pur_fieldAddr tabOk rfl rfl rfl) rfl (tw_pure rfl (pur_load tabOk rfl rfl rfl (fun wz hz => Blk.cell (Blk.ext (PP.blk d_hP) hz) rfl)) rfl ?_)))))))); refine tw_pure rfl (pur_indexAddr_eq tabOk rfl rfl rfl (by assumption) rfl (by omega) (by omega)) rfl ?_; refine tw_pure rfl (pur_fieldAddr tabOk rfl rfl rfl) rfl (tw_pure rfl (pur_load tabOk rfl rfl rfl (fun wz hz => Row.at (Row.ext d_hr hz) rfl)) rfl ?_); clear qs7 d_hP d_hr; refine tw_tail rfl ?_; refine cC (by kernel_rfl) rfl (fail_c _ _ _ _ _ (by assumption)) rfl ?_; rintro _ w11 ⟨⟨⟩, ⟨h9, f10⟩⟩; have z12 := f10.size; clear hP; replace X := X.fr f10 (by omega); clear hr f10; refine lw_nil (qw_end0 rfl ?_); rotate_left 1
   exact ⟨rfl, by assumption, X⟩
 · rw [show unexpP c.ts c.n σ = failP σ c.n 4 from by simp [unexpP, hlt]]
   refine calls_in Tryz.func61 Tryz.ntmps61 rfl rfl ?_
   focus
    refine cw_seq ?_; (refine cw_tdraw (fun wz => Ext w wz) 9 (.pure 0 (.pure 1 (.pure 2 (.pure 3 (.pure 4 (.pure 5 (.pure 6 (.pure 7 (.pure 8 .tail))))))))) mixed (by kernel_rfl) (panicOk_then panicOk_body) ?_; intro wa1 xa2 _); have qsa3 : (fun wz => Ext w wz) wa1 := xa2; simp only at qsa3; have d_hP := hP; have za4 := xa2.size; replace hP := hP.ext xa2; replace X := X.ext xa2; clear xa2; refine ⟨qsa3, ?_⟩; refine tw_pure rfl (pur_move rfl) rfl (tw_pure rfl (pur_nilCheck rfl) rfl (tw_pure rfl (pur_fieldAddr tabOk rfl rfl rfl) rfl (tw_pure rfl (pur_load tabOk rfl rfl rfl (fun wz hz => Blk.cell (Blk.ext (PP.blk d_hP) hz) rfl)) rfl (tw_pure rfl (pur_move rfl) rfl (tw_pure rfl (pur_nilCheck rfl) rfl (tw_pure rfl (pur_fieldAddr0 tabOk rfl rfl rfl) rfl (tw_pure rfl (pur_load tabOk rfl rfl rfl (fun wz hz => Blk.cell (Blk.ext (PP.blk d_hP) hz) rfl)) rfl (tw_pure rfl (pur_len_slice tabOk rfl rfl) rfl ?_)))))))); clear qsa3 d_hP; refine tw_tail rfl (lw_pure (pur_lss rfl rfl) rfl (cT ?_)); refine cw_no rfl (by omega) ?_; refine cw_region (cM rfl rfl (cM rfl rfl (lw_pure (pur_nilCheck rfl) rfl (lw_pure (pur_fieldAddr tabOk rfl rfl rfl) rfl (lw_load_b tabOk rfl rfl rfl (PP.blk hP) rfl rfl ?_))))); refine cC (by kernel_rfl) rfl (fail_c _ _ _ _ _ (by assumption)) rfl ?_; rintro _ wa7 ⟨⟨⟩, ⟨ha5, fa6⟩⟩; have za8 := fa6.size; clear hP; replace X := X.fr fa6 (by omega); clear fa6; refine lw_nil (qw_end0 rfl ?_); rotate_left 1
   exact ⟨rfl, by assumption, X⟩
set_option maxRecDepth 100000 in
set_option maxHeartbeats 1000000 in
theorem accept_c (c : PC) (σ : PS) (t : List UInt8) (w : World) (hP : PP c σ w) (ht : t ≠ []) :
 Calls Tryz.prog 73 #[.pointer (some ⟨c.pb, 0, none⟩), str t] w fun r w' => r = .returned (.bool (hasP c.ts σ t)) ∧ PP c (acceptP c.ts σ t) w' ∧ Fr (· = c.pb) w w' := by
 have X := Fr.refl (· = c.pb) w; have hl := hP.len
 by_cases h : (peekP c.ts σ).text = t
 · have h1 : hasP c.ts σ t = true := by simp [hasP, h]
   rw [show acceptP c.ts σ t = nextP σ from by simp [acceptP, h1], h1]; obtain ⟨h2, h3⟩ := has_in hP.at_ h1 ht; refine calls_in Tryz.func73 Tryz.ntmps73 rfl rfl ?_
   focus
    refine cS (cA rfl rfl (cT (cw_seq (cS (cM rfl rfl ?_))))); refine cC (by kernel_rfl) rfl (peek_c _ _ _ (by assumption)) rfl ?_; rintro _ w2 ⟨⟨⟩, x1⟩; have z3 := x1.size; replace hP := hP.ext x1; replace X := X.ext x1; clear x1; refine lw_pure (pur_field tabOk rfl rfl rfl rfl rfl rfl) rfl (cM rfl rfl (lw_pure (pur_sneq rfl rfl) rfl (cT ?_))); refine cw_no rfl (not_not_intro (by assumption)) ?_; refine cw_skip (qw_then (cS (cM rfl rfl (lw_pure (pur_nilCheck rfl) rfl (lw_pure (pur_fieldAddr tabOk rfl rfl rfl) rfl (lw_load_b tabOk rfl rfl rfl (PP.blk hP) rfl rfl ?_)))))); refine lw_pure (pur_add rfl rfl (IntWalk.i64_in _ (by omega))) rfl ?_; refine lw_pure (pur_nilCheck rfl) rfl (lw_pure (pur_fieldAddr tabOk rfl rfl rfl) rfl ?_); refine lw_pp_at tabOk rfl rfl rfl rfl (by assumption) h3 ?_; rintro w4 h5 f6; have z7 := f6.size; clear hP; replace X := X.fr f6 (by omega); clear f6; refine cN (cA rfl rfl (cT (cw_ret (qw_ret1 rfl rfl ?_)))); rotate_left 1
   exact ⟨rfl, by assumption, X⟩
 · have h1 : hasP c.ts σ t = false := by simp [hasP, h]
   rw [show acceptP c.ts σ t = σ from by simp [acceptP, h1], h1]; refine calls_in Tryz.func73 Tryz.ntmps73 rfl rfl ?_
   focus
    refine cS (cA rfl rfl (cT (cw_seq (cS (cM rfl rfl ?_))))); refine cC (by kernel_rfl) rfl (peek_c _ _ _ (by assumption)) rfl ?_; rintro _ wa2 ⟨⟨⟩, xa1⟩; have za3 := xa1.size; replace hP := hP.ext xa1; replace X := X.ext xa1; clear xa1; refine lw_pure (pur_field tabOk rfl rfl rfl rfl rfl rfl) rfl (cM rfl rfl (lw_pure (pur_sneq rfl rfl) rfl (cT ?_))); refine cw_yes rfl (by assumption) ?_; refine cS (cA rfl rfl (cT (cw_ret (qw_then_ret (qw_ret1 rfl rfl ?_))))); rotate_left 1
   exact ⟨rfl, by assumption, X⟩
theorem accept_t (c : PC) (σ : PS) (t : List UInt8) (w : World) (hP : PP c σ w) (ht : t ≠ []) (h : hasP c.ts σ t = true) :
 Calls Tryz.prog 73 #[.pointer (some ⟨c.pb, 0, none⟩), str t] w fun r w' => r = .returned (.bool true) ∧ PP c (nextP σ) w' ∧ Fr (· = c.pb) w w' := by
 have := accept_c c σ t w hP ht; rw [show acceptP c.ts σ t = nextP σ from by simp [acceptP, h], h] at this
 exact this
theorem accept_f (c : PC) (σ : PS) (t : List UInt8) (w : World) (hP : PP c σ w) (ht : t ≠ []) (h : hasP c.ts σ t = false) :
 Calls Tryz.prog 73 #[.pointer (some ⟨c.pb, 0, none⟩), str t] w fun r w' => r = .returned (.bool false) ∧ PP c σ w' ∧ Fr (· = c.pb) w w' := by
 have := accept_c c σ t w hP ht; rw [show acceptP c.ts σ t = σ from by simp [acceptP, h], h] at this
 exact this
set_option maxRecDepth 100000 in
set_option maxHeartbeats 1000000 in
theorem expect_c (c : PC) (σ : PS) (t : List UInt8) (w : World) (hP : PP c σ w) (ht : t ≠ []) :
 Calls Tryz.prog 40 #[.pointer (some ⟨c.pb, 0, none⟩), str t] w fun r w' => r = .returned (.tuple #[]) ∧ PP c (expectP c.ts c.n σ t) w' ∧ Fr (· = c.pb) w w' := by
 have X := Fr.refl (· = c.pb) w
 cases h : hasP c.ts σ t
 · have e1 : acceptP c.ts σ t = σ := by simp [acceptP, h]
   have e2 : expectP c.ts c.n σ t = unexpP c.ts c.n σ := by simp [expectP, h]
   rw [e2]; refine calls_in Tryz.func40 Tryz.ntmps40 rfl rfl ?_
   focus
    refine cS (cM rfl rfl (cM rfl rfl ?_)); refine cC (by kernel_rfl) rfl (accept_c _ _ _ _ (by assumption) (by assumption)) rfl ?_; rintro _ w3 ⟨⟨⟩, ⟨h1, f2⟩⟩; have z4 := f2.size; clear hP; replace X := X.fr f2 (by omega); clear f2; refine lw_pure (pur_not rfl) rfl (cT ?_); refine cw_nt rfl (by assumption) ?_; refine cw_region (cM rfl rfl ?_); refine cC (by kernel_rfl) rfl (unexpected_c _ _ _ (by assumption)) rfl ?_; rintro _ w7 ⟨⟨⟩, ⟨h5, f6⟩⟩; have z8 := f6.size; clear h1; replace X := X.fr f6 (by omega); clear f6; refine lw_nil (qw_end0 rfl ?_); rotate_left 1
   exact ⟨rfl, by rw [e1] at *; assumption, X⟩
 · have e1 : acceptP c.ts σ t = nextP σ := by simp [acceptP, h]
   have e2 : expectP c.ts c.n σ t = nextP σ := by simp [expectP, h]
   rw [e2]; refine calls_in Tryz.func40 Tryz.ntmps40 rfl rfl ?_
   focus
    refine cS (cM rfl rfl (cM rfl rfl ?_)); refine cC (by kernel_rfl) rfl (accept_c _ _ _ _ (by assumption) (by assumption)) rfl ?_; rintro _ wa3 ⟨⟨⟩, ⟨ha1, fa2⟩⟩; have za4 := fa2.size; clear hP; replace X := X.fr fa2 (by omega); clear fa2; refine lw_pure (pur_not rfl) rfl (cT ?_); refine cw_nf rfl (by assumption) ?_; refine cw_skip (qw_end0 rfl ?_); rotate_left 1
   exact ⟨rfl, by rw [e1] at *; assumption, X⟩
end Bk
namespace Bk
open Go Go.RowKit Go.Proofs
attribute [local irreducible] Go.Calls
theorem peek_len {c : PC} {σ : PS} {w : World} (hP : PP c σ w) : (peekP c.ts σ).text.length ≤ 1000000 := by
 by_cases h : σ.err ≠ 0 ∨ σ.at_ = c.ts.length
 · rw [peek_off h]; simp [Tok.zero]
 · have hlt : σ.at_ < c.ts.length := by have : σ.at_ ≠ c.ts.length := fun e => h (Or.inr e); have := hP.at_; omega
   rw [peek_is h hlt]
   exact hP.tok _ (List.getElem_mem hlt)
def TreeR (c : PC) (w : World) (r : Nd × PS) : Ending → World → Prop := fun e w' => ∃ a k, e = .returned (r.1.val a k) ∧ r.1.sits (fun b => w.heap.size ≤ b ∧ b < w'.heap.size) w' a ∧ PP c r.2 w' ∧ Fr (· = c.pb) w w'
theorem tree_ret {c : PC} {w w' : World} {r : Nd × PS} {a : Option Addr} {k : Nat} (hs : r.1.sits (w.heap.size ≤ ·) w' a) (hP : PP c r.2 w') (X : Fr (· = c.pb) w w') : TreeR c w r (.returned (r.1.val a k)) w' :=
 ⟨a, k, rfl, sits_lt2 _ _ hs, hP, X⟩
theorem TreeR.ret {c : PC} {w : World} {r : Nd × PS} {e : Ending} {w' : World} (h : TreeR c w r e w') : ∃ v, e = .returned v := by
 obtain ⟨_, _, h, -⟩ := h
 exact ⟨_, h⟩
set_option maxRecDepth 100000 in
set_option maxHeartbeats 1000000 in
theorem name_c (c : PC) (σ : PS) (w : World) (hP : PP c σ w) :
 Calls Tryz.prog 92 #[.pointer (some ⟨c.pb, 0, none⟩)] w fun r w' => r = .returned (str (nameP c.ts c.n σ).1) ∧ PP c (nameP c.ts c.n σ).2 w' ∧ Fr (· = c.pb) w w' := by
 have X := Fr.refl (· = c.pb) w; have hl := hP.len; have hpl := peek_len hP; have hpb := hP.pbB; have hB := hP.B
 cases h : isName (peekP c.ts σ).text
 · rw [show nameP c.ts c.n σ = ([], unexpP c.ts c.n σ) from by simp [nameP, h]]
   refine calls_in Tryz.func92 Tryz.ntmps92 rfl rfl ?_
   focus
    refine cS (cA rfl rfl (cN (cM rfl rfl ?_))); refine cC (by kernel_rfl) rfl (peek_c _ _ _ (by assumption)) rfl ?_; rintro _ w2 ⟨⟨⟩, x1⟩; have z3 := x1.size; replace hP := hP.ext x1; replace X := X.ext x1; clear x1; (refine lw_alloc' [_, _, _] zOk rfl rfl ?_; intro b4 w5 n6); (refine lw_init' [_, _, _] tabOk rfl rfl rfl rfl rfl rfl n6 rfl ?_; clear n6; clear w5; intro w7 n6); have h8 := n6.blk; have x9 := n6.ext; have p10 := n6.pos; have z11 := n6.size; clear n6; replace hP := hP.ext x9; replace X := X.ext x9; clear x9; refine cT (cw_seq (cS (lw_pure (pur_fieldAddr tabOk rfl rfl rfl) rfl (lw_load_b tabOk rfl rfl rfl h8 rfl rfl ?_)))); refine cC (by kernel_rfl) rfl (Name_c _ _ (by omega)) rfl ?_; rintro _ w13 ⟨⟨⟩, x12⟩; have z14 := x12.size; replace h8 := h8.ext x12; replace hP := hP.ext x12; replace X := X.ext x12; clear x12; refine lw_pure (pur_not rfl) rfl (cT ?_); refine cw_nt rfl (by assumption) ?_; refine cS (cM rfl rfl ?_); refine cC (by kernel_rfl) rfl (unexpected_c _ _ _ (by assumption)) rfl ?_; rintro _ w17 ⟨⟨⟩, ⟨h15, f16⟩⟩; have z18 := f16.size; replace h8 := h8.fr f16 (by omega); clear hP; replace X := X.fr f16 (by omega); clear f16; refine cN (cA rfl rfl (cT (cw_ret (qw_then_ret (qw_ret1 rfl rfl ?_))))); rotate_left 1
   exact ⟨rfl, by assumption, X⟩
 · rw [show nameP c.ts c.n σ = ((peekP c.ts σ).text, nextP σ) from by simp [nameP, h]]
   obtain ⟨h2, h3⟩ := peek_in hP.at_ (Or.inl (isName_ne h)); refine calls_in Tryz.func92 Tryz.ntmps92 rfl rfl ?_
   focus
    refine cS (cA rfl rfl (cN (cM rfl rfl ?_))); refine cC (by kernel_rfl) rfl (peek_c _ _ _ (by assumption)) rfl ?_; rintro _ wa2 ⟨⟨⟩, xa1⟩; have za3 := xa1.size; replace hP := hP.ext xa1; replace X := X.ext xa1; clear xa1; (refine lw_alloc' [_, _, _] zOk rfl rfl ?_; intro ba4 wa5 na6); (refine lw_init' [_, _, _] tabOk rfl rfl rfl rfl rfl rfl na6 rfl ?_; clear na6; clear wa5; intro wa7 na6); have ha8 := na6.blk; have xa9 := na6.ext; have pa10 := na6.pos; have za11 := na6.size; clear na6; replace hP := hP.ext xa9; replace X := X.ext xa9; clear xa9; refine cT (cw_seq (cS (lw_pure (pur_fieldAddr tabOk rfl rfl rfl) rfl (lw_load_b tabOk rfl rfl rfl ha8 rfl rfl ?_)))); refine cC (by kernel_rfl) rfl (Name_c _ _ (by omega)) rfl ?_; rintro _ wa13 ⟨⟨⟩, xa12⟩; have za14 := xa12.size; replace ha8 := ha8.ext xa12; replace hP := hP.ext xa12; replace X := X.ext xa12; clear xa12; refine lw_pure (pur_not rfl) rfl (cT ?_); refine cw_nf rfl (by assumption) ?_; refine cw_skip (qw_then (cS (cM rfl rfl (lw_pure (pur_nilCheck rfl) rfl (lw_pure (pur_fieldAddr tabOk rfl rfl rfl) rfl (lw_load_b tabOk rfl rfl rfl (PP.blk hP) rfl rfl ?_)))))); refine lw_pure (pur_add rfl rfl (IntWalk.i64_in _ (by omega))) rfl ?_; refine lw_pure (pur_nilCheck rfl) rfl (lw_pure (pur_fieldAddr tabOk rfl rfl rfl) rfl ?_); refine lw_pp_at tabOk rfl rfl rfl rfl (by assumption) h3 ?_; rintro wa15 ha16 fa17; have za18 := fa17.size; replace ha8 := ha8.fr fa17 (by omega); clear hP; replace X := X.fr fa17 (by omega); clear fa17; refine cN (lw_pure (pur_fieldAddr tabOk rfl rfl rfl) rfl (lw_load_b tabOk rfl rfl rfl ha8 rfl rfl (cA rfl rfl (cT (cw_ret (qw_ret1 rfl rfl ?_))))))
    rotate_left 1
   exact ⟨rfl, by assumption, X⟩
set_option maxRecDepth 100000 in
set_option maxHeartbeats 1000000 in
theorem argument_c (c : PC) (σ : PS) (w : World) (hP : PP c σ w) :
 Calls Tryz.prog 93 #[.pointer (some ⟨c.pb, 0, none⟩)] w (TreeR c w (argP c.ts c.n σ)) := by
 have X := Fr.refl (· = c.pb) w; have hpb := hP.pbB; have hB := hP.B; refine calls_in Tryz.func93 Tryz.ntmps93 rfl rfl ?_
 focus
  refine cS ?_; (refine lw_alloc' [_, _, _, _] zOk rfl rfl ?_; intro b1 w2 n3); have h5 := n3.blk; have x6 := n3.ext; have p7 := n3.pos; have z8 := n3.size; clear n3; replace hP := hP.ext x6; replace X := X.ext x6; clear x6; refine cN (cM rfl rfl ?_); refine cC (by kernel_rfl) rfl (name_c _ _ _ (by assumption)) rfl ?_; rintro _ w11 ⟨⟨⟩, ⟨h9, f10⟩⟩; have z12 := f10.size; replace h5 := h5.fr f10 (by omega); clear hP; replace X := X.fr f10 (by omega); clear f10; refine lw_pure (pur_build' [_, _, _, _] tabOk zOk rfl rfl rfl rfl) rfl ?_; (refine lw_store' [_, _, _, _] [_, _, _, _] tabOk rfl rfl rfl rfl rfl rfl h5 rfl rfl ?_; intro w13 n14); have h17 := n14.blk; have f15 := n14.fr; have z16 := n14.size; clear n14 h5; replace h9 := h9.fr f15 (by omega); replace X := X.fr f15 (by omega); clear f15; refine cT (cw_ret (qw_retc rfl tabOk rfl rfl rfl h17 rfl ?_)); rotate_left 1
 exact tree_ret sits_nil (by assumption) X
set_option maxRecDepth 100000 in
set_option maxHeartbeats 1000000 in
theorem stackExpr_c (c : PC) (σ : PS) (kind : Int) (w : World) (hP : PP c σ w) :
 Calls Tryz.prog 106 #[.pointer (some ⟨c.pb, 0, none⟩), .int .u8 kind] w (TreeR c w (.mk kind 0 (nameP c.ts c.n (expectP c.ts c.n σ [40])).1 [], expectP c.ts c.n (nameP c.ts c.n (expectP c.ts c.n σ [40])).2 [41])) := by
 have X := Fr.refl (· = c.pb) w; have hpb := hP.pbB; have hB := hP.B; refine calls_in Tryz.func106 Tryz.ntmps106 rfl rfl ?_
 focus
  refine cS ?_; (refine lw_alloc' [_, _, _, _] zOk rfl rfl ?_; intro b1 w2 n3); have h5 := n3.blk; have x6 := n3.ext; have p7 := n3.pos; have z8 := n3.size; clear n3; replace hP := hP.ext x6; replace X := X.ext x6; clear x6; refine cN (cM rfl rfl ?_); refine cC (by kernel_rfl) rfl (expect_c _ _ _ _ (by assumption) (by decide)) rfl ?_; rintro _ w11 ⟨⟨⟩, ⟨h9, f10⟩⟩; have z12 := f10.size; replace h5 := h5.fr f10 (by omega); clear hP; replace X := X.fr f10 (by omega); clear f10; refine cN (cM rfl rfl (cM rfl rfl ?_)); refine cC (by kernel_rfl) rfl (name_c _ _ _ (by assumption)) rfl ?_; rintro _ w15 ⟨⟨⟩, ⟨h13, f14⟩⟩; have z16 := f14.size; clear h9; replace h5 := h5.fr f14 (by omega); replace X := X.fr f14 (by omega); clear f14; refine lw_pure (pur_build' [_, _, _, _] tabOk zOk rfl rfl rfl rfl) rfl ?_; (refine lw_alloc' [_, _, _, _] zOk rfl rfl ?_; intro b17 w18 n19); (refine lw_init' [_, _, _, _] tabOk rfl rfl rfl rfl rfl rfl n19 rfl ?_; clear n19; clear w18; intro w20 n19); have h21 := n19.blk; have x22 := n19.ext; have p23 := n19.pos; have z24 := n19.size; clear n19; replace h13 := h13.ext x22; replace h5 := h5.ext x22; replace X := X.ext x22; clear x22; refine cN (cM rfl rfl ?_); refine cC (by kernel_rfl) rfl (expect_c _ _ _ _ (by assumption) (by decide)) rfl ?_; rintro _ w27 ⟨⟨⟩, ⟨h25, f26⟩⟩; have z28 := f26.size; replace h21 := h21.fr f26 (by omega); clear h13; replace h5 := h5.fr f26 (by omega); replace X := X.fr f26 (by omega); clear f26; refine cN (lw_loads_b' [_, _, _, _] tabOk rfl rfl rfl h21 rfl rfl rfl ?_)
  (refine lw_store' [_, _, _, _] [_, _, _, _] tabOk rfl rfl rfl rfl rfl rfl h5 rfl rfl ?_; intro w29 n30); have h33 := n30.blk; have f31 := n30.fr; have z32 := n30.size; clear n30 h5; replace h25 := h25.fr f31 (by omega); replace h21 := h21.fr f31 (by omega); replace X := X.fr f31 (by omega); clear f31; refine cT (cw_ret (qw_retc rfl tabOk rfl rfl rfl h33 rfl ?_)); rotate_left 1
 exact tree_ret sits_nil (by assumption) X
end Bk
namespace Bk
def digitsFrom (a : Nat) (s : List UInt8) : Nat := s.foldl (fun a c => a * 10 + (c.toNat - 48)) a
theorem digitsFrom_le (s : List UInt8) : ∀ a, a ≤ digitsFrom a s := by
 induction s with
 | nil => intro a; exact Nat.le_refl _
 | cons c r ih => intro a; have := ih (a * 10 + (c.toNat - 48)); simp only [digitsFrom, List.foldl_cons] at this ⊢; omega
end Bk
namespace Bk
open Go Go.RowKit Go.Proofs
attribute [local irreducible] Go.Calls
theorem parseUint_digits : ∀ (s : List UInt8) (a : Nat), a < 18446744073709551616 → (∀ c ∈ s, digit c = true) →
 (Lib.parseUint10 a s = .ok (digitsFrom a s) ∧ digitsFrom a s < 18446744073709551616) ∨ (Lib.parseUint10 a s = .range ∧ 18446744073709551616 ≤ digitsFrom a s)
 | [], a, ha, _ => Or.inl ⟨rfl, ha⟩
 | c :: r, a, ha, hd => by
  have hc := hd c List.mem_cons_self; simp only [digit, Bool.and_eq_true, decide_eq_true_eq] at hc
  have hr : ∀ x ∈ r, digit x = true := fun x hx => hd x (List.mem_cons_of_mem _ hx)
  have hle := digitsFrom_le r (a * 10 + (c.toNat - 48)); have he : digitsFrom a (c :: r) = digitsFrom (a * 10 + (c.toNat - 48)) r := rfl; rw [he]; simp only [Lib.parseUint10, hc, and_self, if_true]
  by_cases h1 : 1844674407370955162 ≤ a
  · rw [if_pos h1]; exact Or.inr ⟨rfl, by omega⟩
  · rw [if_neg h1]
    by_cases h2 : 18446744073709551616 ≤ a * 10 + (c.toNat - 48)
    · rw [if_pos h2]; exact Or.inr ⟨rfl, by omega⟩
    · rw [if_neg h2]
      exact parseUint_digits r _ (by omega) hr
theorem atoi_digits (s : List UInt8) (hs : s ≠ []) (hd : ∀ c ∈ s, digit c = true) :
 Lib.atoiAll s = if (digitsVal s : Int) ≤ 9223372036854775807 then .ok (digitsVal s) else .range := by
 cases s with
 | nil => exact absurd rfl hs
 | cons c r =>
  have hc := hd c List.mem_cons_self; simp only [digit, Bool.and_eq_true, decide_eq_true_eq] at hc
  have n45 : ¬ c.toNat = 45 := by omega
  have n43 : ¬ c.toNat = 43 := by omega
  have e : digitsVal (c :: r) = digitsFrom 0 (c :: r) := rfl; rw [e]
  have hm : Lib.parseMag (c :: r) = Lib.parseUint10 0 (c :: r) := by simp [Lib.parseMag]
  unfold Lib.atoiAll
  simp only [n45, n43, or_self, if_false, hm, not_false_eq_true, true_and, false_and]
  rcases parseUint_digits (c :: r) 0 (by omega) hd with ⟨h1, h2⟩ | ⟨h1, h2⟩
  · rw [h1]
    simp only
    by_cases h : 9223372036854775808 ≤ digitsFrom 0 (c :: r)
    · rw [if_pos h, if_neg (by omega)]
    · rw [if_neg h, if_pos (by omega)]
  · rw [h1, if_neg (by omega)]
theorem Ext.bytes (w : World) (e : TypeId) (s : ByteArray) : Ext w (Lib.bytesWorld w e s) := Lib.bytesWorld_below w e s
theorem Atoi_ok (s : List UInt8) (w : World) (hs : s ≠ []) (hd : ∀ c ∈ s, digit c = true) (hl : s.length ≤ 1000000) (h : (digitsVal s : Int) ≤ 9223372036854775807) :
 Calls Tryz.prog 110 #[str s] w fun e w' => e = .returned (.tuple #[.int .i64 (digitsVal s), .nilIface]) ∧ Ext w w' := by
 have ha := atoi_digits s hs hd; rw [if_pos h] at ha; refine (Tryz.strconv_Atoi_ok ⟨s.toArray⟩ (by rw [ba_size]; omega) (digitsVal s) (by simpa using ha) w).mono ?_; rintro e w' ⟨rfl, rfl | ⟨t, rfl⟩⟩
 · exact ⟨rfl, Ext.refl _⟩
 · exact ⟨rfl, Ext.bytes _ _ _⟩
theorem Atoi_range (s : List UInt8) (w : World) (hs : s ≠ []) (hd : ∀ c ∈ s, digit c = true) (hl : s.length ≤ 1000000) (h : ¬ (digitsVal s : Int) ≤ 9223372036854775807) (he : Errs w) :
 Calls Tryz.prog 110 #[str s] w fun e w' => ∃ te pe, e = .returned (.tuple #[.int .i64 9223372036854775807, .iface te pe]) ∧ Ext w w' := by
 have ha := atoi_digits s hs hd; rw [if_neg h] at ha; obtain ⟨te, pe, hv⟩ := he.ex; refine (Tryz.strconv_Atoi_range ⟨s.toArray⟩ (by rw [ba_size]; omega) (by simpa using ha) (.iface te pe) w hv (Or.inr ⟨te, pe, rfl⟩)).mono ?_; rintro e w' ⟨N, rfl, -, -, hb⟩
 have : Lib.atoiSat (⟨s.toArray⟩ : ByteArray).data.toList = 9223372036854775807 := by
  cases s with
  | nil => exact absurd rfl hs
  | cons c r =>
   have hc := hd c List.mem_cons_self; simp only [digit, Bool.and_eq_true, decide_eq_true_eq] at hc
   simp [Lib.atoiSat]; omega
 rw [this]
 exact ⟨_, _, rfl, hb⟩
theorem peek_tok {c : PC} {σ : PS} {w : World} (hP : PP c σ w) (h : (peekP c.ts σ).kind = 2) : (peekP c.ts σ).text ≠ [] ∧ ∀ x ∈ (peekP c.ts σ).text, digit x = true := by
 by_cases h' : σ.err ≠ 0 ∨ σ.at_ = c.ts.length
 · rw [peek_off h'] at h; simp [Tok.zero] at h
 · have hlt : σ.at_ < c.ts.length := by have : σ.at_ ≠ c.ts.length := fun e => h' (Or.inr e); have := hP.at_; omega
   rw [peek_is h' hlt] at h ⊢
   exact hP.num _ (List.getElem_mem hlt) h
set_option maxRecDepth 100000 in
set_option maxHeartbeats 1000000 in
theorem number_c (c : PC) (σ : PS) (least most : Int) (w : World) (hP : PP c σ w) (h0 : -1 ≤ least) :
 Calls Tryz.prog 103 #[.pointer (some ⟨c.pb, 0, none⟩), .int .i64 least, .int .i64 most] w fun r w' => r = .returned (.int .i64 (numberP c.ts c.n least most σ).1) ∧ PP c (numberP c.ts c.n least most σ).2 w' ∧ Fr (· = c.pb) w w' := by
 have X := Fr.refl (· = c.pb) w; have hl := hP.len; have hpl := peek_len hP; have hpb := hP.pbB; have hB := hP.B
 by_cases hk : (peekP c.ts σ).kind = 2
 · obtain ⟨h2, h3⟩ := peek_in hP.at_ (Or.inr (show (peekP c.ts σ).kind ≠ 0 by omega))
   obtain ⟨d1, d2⟩ := peek_tok hP hk
   by_cases hr : (digitsVal (peekP c.ts σ).text : Int) ≤ 9223372036854775807
   · by_cases hr2 : least ≤ (digitsVal (peekP c.ts σ).text : Int) ∧ (digitsVal (peekP c.ts σ).text : Int) ≤ most
     · obtain ⟨r1, r2⟩ := hr2
       rw [show numberP c.ts c.n least most σ = ((digitsVal (peekP c.ts σ).text : Int), nextP σ) from by simp [numberP, hk, hr, r1, r2]]; refine calls_in Tryz.func103 Tryz.ntmps103 rfl rfl ?_
       focus
        refine cS (cA rfl rfl (cN (cM rfl rfl ?_))); refine cC (by kernel_rfl) rfl (peek_c _ _ _ (by assumption)) rfl ?_; rintro _ w2 ⟨⟨⟩, x1⟩; have z3 := x1.size; replace hP := hP.ext x1; replace X := X.ext x1; clear x1; (refine lw_alloc' [_, _, _] zOk rfl rfl ?_; intro b4 w5 n6); (refine lw_init' [_, _, _] tabOk rfl rfl rfl rfl rfl rfl n6 rfl ?_; clear n6; clear w5; intro w7 n6); have h8 := n6.blk; have x9 := n6.ext; have p10 := n6.pos; have z11 := n6.size; clear n6; replace hP := hP.ext x9; replace X := X.ext x9; clear x9; refine cT (cw_seq (cS (lw_pure (pur_fieldAddr0 tabOk rfl rfl rfl) rfl (lw_load_b tabOk rfl rfl rfl h8 rfl rfl (lw_pure (pur_neq rfl rfl) rfl (cT ?_)))))); refine cw_no rfl (by omega) ?_; refine cw_skip (qw_then (cS (cM rfl rfl (lw_pure (pur_nilCheck rfl) rfl (lw_pure (pur_fieldAddr tabOk rfl rfl rfl) rfl (lw_load_b tabOk rfl rfl rfl (PP.blk hP) rfl rfl ?_)))))); refine lw_pure (pur_add rfl rfl (IntWalk.i64_in _ (by omega))) rfl ?_; refine lw_pure (pur_nilCheck rfl) rfl (lw_pure (pur_fieldAddr tabOk rfl rfl rfl) rfl ?_); refine lw_pp_at tabOk rfl rfl rfl rfl (by assumption) h3 ?_; rintro w12 h13 f14; have z15 := f14.size; replace h8 := h8.fr f14 (by omega); clear hP; replace X := X.fr f14 (by omega); clear f14; refine cN (lw_pure (pur_fieldAddr tabOk rfl rfl rfl) rfl (lw_load_b tabOk rfl rfl rfl h8 rfl rfl ?_)); refine cC (by kernel_rfl) rfl (Atoi_ok _ _ d1 d2 hpl hr) rfl ?_; rintro _ w17 ⟨⟨⟩, x16⟩; have z18 := x16.size; replace h13 := h13.ext x16; replace h8 := h8.ext x16
        replace X := X.ext x16; clear x16; refine cM rfl rfl (lw_pure (pur_extract rfl rfl) rfl (lw_pure (pur_extract rfl rfl) rfl (cA rfl rfl (cA rfl rfl (cT (cw_seq (cS (cM rfl rfl (lw_pure (pur_ifn0 tabOk rfl rfl) rfl (cM rfl rfl (lw_on rfl rfl rfl (rfl) ?_))))))))))); refine cM rfl rfl (lw_on rfl rfl rfl (rfl) (cM rfl rfl (lw_on rfl rfl rfl (rfl) (lw_pure (pur_lss rfl rfl) rfl (lw_pure (pur_pick_f rfl rfl rfl) rfl (cM rfl rfl ?_)))))); refine lw_on rfl rfl rfl (gd_ff (by omega)) ?_; refine cM rfl rfl ?_; refine lw_on rfl rfl rfl (gd_ff (by omega)) ?_; refine cM rfl rfl ?_; refine lw_on rfl rfl rfl (gd_ff (by omega)) ?_; refine lw_pure (pur_gtr rfl rfl) rfl ?_; refine lw_pure (pur_pick_no rfl rfl (by omega)) rfl ?_; refine cT ?_; refine cw_no rfl (by omega) ?_; refine cw_skip (qw_then (cS (cM rfl rfl (cA rfl rfl (cT (cw_ret (qw_ret1 rfl rfl ?_))))))); rotate_left 1
       exact ⟨rfl, by assumption, X⟩
     · rw [show numberP c.ts c.n least most σ = (0, failP (nextP σ) (peekP c.ts σ).pos 2) from by simp [numberP, hk, hr, hr2]]
       by_cases r1 : least ≤ (digitsVal (peekP c.ts σ).text : Int)
       · have r2 : most < (digitsVal (peekP c.ts σ).text : Int) := by omega
         refine calls_in Tryz.func103 Tryz.ntmps103 rfl rfl ?_
         focus
          refine cS (cA rfl rfl (cN (cM rfl rfl ?_))); refine cC (by kernel_rfl) rfl (peek_c _ _ _ (by assumption)) rfl ?_; rintro _ wa2 ⟨⟨⟩, xa1⟩; have za3 := xa1.size; replace hP := hP.ext xa1; replace X := X.ext xa1; clear xa1; (refine lw_alloc' [_, _, _] zOk rfl rfl ?_; intro ba4 wa5 na6); (refine lw_init' [_, _, _] tabOk rfl rfl rfl rfl rfl rfl na6 rfl ?_; clear na6; clear wa5; intro wa7 na6); have ha8 := na6.blk; have xa9 := na6.ext; have pa10 := na6.pos; have za11 := na6.size; clear na6; replace hP := hP.ext xa9; replace X := X.ext xa9; clear xa9; refine cT (cw_seq (cS (lw_pure (pur_fieldAddr0 tabOk rfl rfl rfl) rfl (lw_load_b tabOk rfl rfl rfl ha8 rfl rfl (lw_pure (pur_neq rfl rfl) rfl (cT ?_)))))); refine cw_no rfl (by omega) ?_; refine cw_skip (qw_then (cS (cM rfl rfl (lw_pure (pur_nilCheck rfl) rfl (lw_pure (pur_fieldAddr tabOk rfl rfl rfl) rfl (lw_load_b tabOk rfl rfl rfl (PP.blk hP) rfl rfl ?_)))))); refine lw_pure (pur_add rfl rfl (IntWalk.i64_in _ (by omega))) rfl ?_; refine lw_pure (pur_nilCheck rfl) rfl (lw_pure (pur_fieldAddr tabOk rfl rfl rfl) rfl ?_); refine lw_pp_at tabOk rfl rfl rfl rfl (by assumption) h3 ?_; rintro wa12 ha13 fa14; have za15 := fa14.size; replace ha8 := ha8.fr fa14 (by omega); clear hP; replace X := X.fr fa14 (by omega); clear fa14; refine cN (lw_pure (pur_fieldAddr tabOk rfl rfl rfl) rfl (lw_load_b tabOk rfl rfl rfl ha8 rfl rfl ?_)); refine cC (by kernel_rfl) rfl (Atoi_ok _ _ d1 d2 hpl hr) rfl ?_; rintro _ wa17 ⟨⟨⟩, xa16⟩; have za18 := xa16.size
          replace ha13 := ha13.ext xa16; replace ha8 := ha8.ext xa16; replace X := X.ext xa16; clear xa16; refine cM rfl rfl (lw_pure (pur_extract rfl rfl) rfl (lw_pure (pur_extract rfl rfl) rfl (cA rfl rfl (cA rfl rfl (cT (cw_seq (cS (cM rfl rfl (lw_pure (pur_ifn0 tabOk rfl rfl) rfl (cM rfl rfl (lw_on rfl rfl rfl (rfl) ?_))))))))))); refine cM rfl rfl (lw_on rfl rfl rfl (rfl) (cM rfl rfl (lw_on rfl rfl rfl (rfl) (lw_pure (pur_lss rfl rfl) rfl (lw_pure (pur_pick_f rfl rfl rfl) rfl (cM rfl rfl ?_)))))); refine lw_on rfl rfl rfl (gd_ff (by omega)) ?_; refine cM rfl rfl ?_; refine lw_on rfl rfl rfl (gd_ff (by omega)) ?_; refine cM rfl rfl ?_; refine lw_on rfl rfl rfl (gd_ff (by omega)) ?_; refine lw_pure (pur_gtr rfl rfl) rfl ?_; refine lw_pure (pur_pick_no rfl rfl (by omega)) rfl ?_; refine cT ?_; refine cw_yes rfl (by assumption) ?_; refine cS (cM rfl rfl (lw_pure (pur_fieldAddr tabOk rfl rfl rfl) rfl (lw_load_b tabOk rfl rfl rfl ha8 rfl rfl ?_))); refine cC (by kernel_rfl) rfl (fail_c _ _ _ _ _ (by assumption)) rfl ?_; rintro _ wa21 ⟨⟨⟩, ⟨ha19, fa20⟩⟩; have za22 := fa20.size; clear ha13; replace ha8 := ha8.fr fa20 (by omega); replace X := X.fr fa20 (by omega); clear fa20; refine cN (cA rfl rfl (cT (cw_ret (qw_then_ret (qw_ret1 rfl rfl ?_))))); rotate_left 1
         exact ⟨rfl, by assumption, X⟩
       · refine calls_in Tryz.func103 Tryz.ntmps103 rfl rfl ?_
         focus
          refine cS (cA rfl rfl (cN (cM rfl rfl ?_))); refine cC (by kernel_rfl) rfl (peek_c _ _ _ (by assumption)) rfl ?_; rintro _ wb2 ⟨⟨⟩, xb1⟩; have zb3 := xb1.size; replace hP := hP.ext xb1; replace X := X.ext xb1; clear xb1; (refine lw_alloc' [_, _, _] zOk rfl rfl ?_; intro bb4 wb5 nb6); (refine lw_init' [_, _, _] tabOk rfl rfl rfl rfl rfl rfl nb6 rfl ?_; clear nb6; clear wb5; intro wb7 nb6); have hb8 := nb6.blk; have xb9 := nb6.ext; have pb10 := nb6.pos; have zb11 := nb6.size; clear nb6; replace hP := hP.ext xb9; replace X := X.ext xb9; clear xb9; refine cT (cw_seq (cS (lw_pure (pur_fieldAddr0 tabOk rfl rfl rfl) rfl (lw_load_b tabOk rfl rfl rfl hb8 rfl rfl (lw_pure (pur_neq rfl rfl) rfl (cT ?_)))))); refine cw_no rfl (by omega) ?_; refine cw_skip (qw_then (cS (cM rfl rfl (lw_pure (pur_nilCheck rfl) rfl (lw_pure (pur_fieldAddr tabOk rfl rfl rfl) rfl (lw_load_b tabOk rfl rfl rfl (PP.blk hP) rfl rfl ?_)))))); refine lw_pure (pur_add rfl rfl (IntWalk.i64_in _ (by omega))) rfl ?_; refine lw_pure (pur_nilCheck rfl) rfl (lw_pure (pur_fieldAddr tabOk rfl rfl rfl) rfl ?_); refine lw_pp_at tabOk rfl rfl rfl rfl (by assumption) h3 ?_; rintro wb12 hb13 fb14; have zb15 := fb14.size; replace hb8 := hb8.fr fb14 (by omega); clear hP; replace X := X.fr fb14 (by omega); clear fb14; refine cN (lw_pure (pur_fieldAddr tabOk rfl rfl rfl) rfl (lw_load_b tabOk rfl rfl rfl hb8 rfl rfl ?_)); refine cC (by kernel_rfl) rfl (Atoi_ok _ _ d1 d2 hpl hr) rfl ?_; rintro _ wb17 ⟨⟨⟩, xb16⟩; have zb18 := xb16.size
          replace hb13 := hb13.ext xb16; replace hb8 := hb8.ext xb16; replace X := X.ext xb16; clear xb16; refine cM rfl rfl (lw_pure (pur_extract rfl rfl) rfl (lw_pure (pur_extract rfl rfl) rfl (cA rfl rfl (cA rfl rfl (cT (cw_seq (cS (cM rfl rfl (lw_pure (pur_ifn0 tabOk rfl rfl) rfl (cM rfl rfl (lw_on rfl rfl rfl (rfl) ?_))))))))))); refine cM rfl rfl (lw_on rfl rfl rfl (rfl) (cM rfl rfl (lw_on rfl rfl rfl (rfl) (lw_pure (pur_lss rfl rfl) rfl (lw_pure (pur_pick_f rfl rfl rfl) rfl (cM rfl rfl ?_)))))); refine lw_off rfl rfl rfl (gd_ft (by omega)) rfl ?_; refine lw_off rfl rfl rfl (gd_ft (by omega)) rfl ?_; refine lw_off rfl rfl rfl (gd_ft (by omega)) rfl ?_; refine lw_pure (pur_pick_yes rfl rfl (by omega)) rfl ?_; refine cT (cw_cond_t rfl (cS (cM rfl rfl (lw_pure (pur_fieldAddr tabOk rfl rfl rfl) rfl (lw_load_b tabOk rfl rfl rfl hb8 rfl rfl ?_))))); refine cC (by kernel_rfl) rfl (fail_c _ _ _ _ _ (by assumption)) rfl ?_; rintro _ wb21 ⟨⟨⟩, ⟨hb19, fb20⟩⟩; have zb22 := fb20.size; clear hb13; replace hb8 := hb8.fr fb20 (by omega); replace X := X.fr fb20 (by omega); clear fb20; refine cN (cA rfl rfl (cT (cw_ret (qw_then_ret (qw_ret1 rfl rfl ?_))))); rotate_left 1
         exact ⟨rfl, by assumption, X⟩
   · rw [show numberP c.ts c.n least most σ = (0, failP (nextP σ) (peekP c.ts σ).pos 2) from by simp [numberP, hk, hr]]
     refine calls_in Tryz.func103 Tryz.ntmps103 rfl rfl ?_
     focus
      refine cS (cA rfl rfl (cN (cM rfl rfl ?_))); refine cC (by kernel_rfl) rfl (peek_c _ _ _ (by assumption)) rfl ?_; rintro _ wc2 ⟨⟨⟩, xc1⟩; have zc3 := xc1.size; replace hP := hP.ext xc1; replace X := X.ext xc1; clear xc1; (refine lw_alloc' [_, _, _] zOk rfl rfl ?_; intro bc4 wc5 nc6); (refine lw_init' [_, _, _] tabOk rfl rfl rfl rfl rfl rfl nc6 rfl ?_; clear nc6; clear wc5; intro wc7 nc6); have hc8 := nc6.blk; have xc9 := nc6.ext; have pc10 := nc6.pos; have zc11 := nc6.size; clear nc6; replace hP := hP.ext xc9; replace X := X.ext xc9; clear xc9; refine cT (cw_seq (cS (lw_pure (pur_fieldAddr0 tabOk rfl rfl rfl) rfl (lw_load_b tabOk rfl rfl rfl hc8 rfl rfl (lw_pure (pur_neq rfl rfl) rfl (cT ?_)))))); refine cw_no rfl (by omega) ?_; refine cw_skip (qw_then (cS (cM rfl rfl (lw_pure (pur_nilCheck rfl) rfl (lw_pure (pur_fieldAddr tabOk rfl rfl rfl) rfl (lw_load_b tabOk rfl rfl rfl (PP.blk hP) rfl rfl ?_)))))); refine lw_pure (pur_add rfl rfl (IntWalk.i64_in _ (by omega))) rfl ?_; refine lw_pure (pur_nilCheck rfl) rfl (lw_pure (pur_fieldAddr tabOk rfl rfl rfl) rfl ?_); refine lw_pp_at tabOk rfl rfl rfl rfl (by assumption) h3 ?_; rintro wc12 hc13 fc14; have zc15 := fc14.size; replace hc8 := hc8.fr fc14 (by omega); clear hP; replace X := X.fr fc14 (by omega); clear fc14; refine cN (lw_pure (pur_fieldAddr tabOk rfl rfl rfl) rfl (lw_load_b tabOk rfl rfl rfl hc8 rfl rfl ?_)); refine lw_does (does_call (by kernel_rfl) rfl (Atoi_range _ _ d1 d2 hpl hr (PP.errs (by assumption))) (fun _ _ ⟨_, _, h⟩ => ⟨_, h.1⟩)) rfl ?_ (fun _ h => h)
      rintro _ wc19 ⟨tec16, ⟨pec17, ⟨⟨⟩, xc18⟩⟩⟩; have zc20 := xc18.size; replace hc13 := hc13.ext xc18; replace hc8 := hc8.ext xc18; replace X := X.ext xc18; clear xc18; refine cM rfl rfl (lw_pure (pur_extract rfl rfl) rfl (lw_pure (pur_extract rfl rfl) rfl (cA rfl rfl (cA rfl rfl (cT (cw_seq (cS (cM rfl rfl (lw_pure (pur_ifn1 tabOk rfl rfl) rfl (cM rfl rfl (lw_off rfl rfl rfl (rfl) rfl ?_))))))))))); refine lw_off rfl rfl rfl (rfl) rfl (lw_off rfl rfl rfl (rfl) rfl (lw_pure (pur_pick_t rfl rfl rfl) rfl (cM rfl rfl (lw_off rfl rfl rfl (rfl) rfl (lw_off rfl rfl rfl (rfl) rfl (lw_off rfl rfl rfl (rfl) rfl (lw_pure (pur_pick_t rfl rfl rfl) rfl (cT (cw_cond_t rfl (cS (cM rfl rfl ?_))))))))))); refine lw_pure (pur_fieldAddr tabOk rfl rfl rfl) rfl (lw_load_b tabOk rfl rfl rfl hc8 rfl rfl ?_); refine cC (by kernel_rfl) rfl (fail_c _ _ _ _ _ (by assumption)) rfl ?_; rintro _ wc23 ⟨⟨⟩, ⟨hc21, fc22⟩⟩; have zc24 := fc22.size; clear hc13; replace hc8 := hc8.fr fc22 (by omega); replace X := X.fr fc22 (by omega); clear fc22; refine cN (cA rfl rfl (cT (cw_ret (qw_then_ret (qw_ret1 rfl rfl ?_))))); rotate_left 1
     exact ⟨rfl, by assumption, X⟩
 · rw [show numberP c.ts c.n least most σ = (0, unexpP c.ts c.n σ) from by simp [numberP, hk]]
   refine calls_in Tryz.func103 Tryz.ntmps103 rfl rfl ?_
   focus
    refine cS (cA rfl rfl (cN (cM rfl rfl ?_))); refine cC (by kernel_rfl) rfl (peek_c _ _ _ (by assumption)) rfl ?_; rintro _ wd2 ⟨⟨⟩, xd1⟩; have zd3 := xd1.size; replace hP := hP.ext xd1; replace X := X.ext xd1; clear xd1; (refine lw_alloc' [_, _, _] zOk rfl rfl ?_; intro bd4 wd5 nd6); (refine lw_init' [_, _, _] tabOk rfl rfl rfl rfl rfl rfl nd6 rfl ?_; clear nd6; clear wd5; intro wd7 nd6); have hd8 := nd6.blk; have xd9 := nd6.ext; have pd10 := nd6.pos; have zd11 := nd6.size; clear nd6; replace hP := hP.ext xd9; replace X := X.ext xd9; clear xd9; refine cT (cw_seq (cS (lw_pure (pur_fieldAddr0 tabOk rfl rfl rfl) rfl (lw_load_b tabOk rfl rfl rfl hd8 rfl rfl (lw_pure (pur_neq rfl rfl) rfl (cT ?_)))))); refine cw_yes rfl (by assumption) ?_; refine cS (cM rfl rfl ?_); refine cC (by kernel_rfl) rfl (unexpected_c _ _ _ (by assumption)) rfl ?_; rintro _ wd14 ⟨⟨⟩, ⟨hd12, fd13⟩⟩; have zd15 := fd13.size; replace hd8 := hd8.fr fd13 (by omega); clear hP; replace X := X.fr fd13 (by omega); clear fd13; refine cN (cA rfl rfl (cT (cw_ret (qw_then_ret (qw_ret1 rfl rfl ?_))))); rotate_left 1
   exact ⟨rfl, by assumption, X⟩
end Bk
