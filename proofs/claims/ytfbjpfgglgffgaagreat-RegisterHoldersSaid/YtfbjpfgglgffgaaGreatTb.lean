/- The types of this translation, as the kit asks of them; held against the program by closed facts. Printed by a program of ours (tab.py). -/
import Derived.Test.YtfbjpfgglgffgaaGreatProg
import Derived.Test.YtfbjpfgglgffgaaGreatSkc
import Derived.KernelRfl
namespace Go.Proofs.YtfbjpfgglgffgaaGreat
open Go Go.SK
def T : Tab where
  flds := [(7, 0, 0, 1, false), (7, 1, 1, 1, false), (7, 2, 2, 1, false), (7, 3, 3, 1, false), (8, 0, 0, 1, false), (8, 1, 1, 1, false), (8, 2, 2, 1, false), (8, 3, 3, 1, false), (13, 0, 0, 1, false), (13, 1, 1, 1, false), (14, 0, 0, 1, false), (14, 1, 1, 1, false), (18, 0, 0, 1, false), (19, 0, 0, 1, false), (27, 0, 0, 1, false), (27, 1, 1, 1, false), (28, 0, 0, 1, false), (28, 1, 1, 1, false), (34, 0, 0, 1, false), (34, 1, 1, 1, false), (34, 2, 2, 1, false), (34, 3, 3, 1, false), (34, 4, 4, 1, false), (34, 5, 5, 1, false), (34, 6, 6, 1, false), (34, 7, 7, 1, false), (34, 8, 8, 1, false), (35, 0, 0, 1, false), (35, 1, 1, 1, false), (35, 2, 2, 1, false), (35, 3, 3, 1, false), (35, 4, 4, 1, false), (35, 5, 5, 1, false), (35, 6, 6, 1, false), (35, 7, 7, 1, false), (35, 8, 8, 1, false), (43, 0, 0, 1, false), (43, 1, 1, 1, false), (43, 2, 2, 1, false), (43, 3, 3, 1, false), (43, 4, 4, 1, false), (43, 5, 5, 1, false), (43, 6, 6, 9, true), (44, 0, 0, 1, false), (44, 1, 1, 1, false), (44, 2, 2, 1, false), (44, 3, 3, 1, false), (44, 4, 4, 1, false), (44, 5, 5, 1, false), (44, 6, 6, 9, true), (53, 0, 0, 1, false), (53, 1, 1, 1, false), (53, 2, 2, 1, false), (53, 3, 3, 1, false), (54, 0, 0, 1, false), (54, 1, 1, 1, false), (54, 2, 2, 1, false), (54, 3, 3, 1, false), (80, 0, 0, 1, false), (80, 1, 1, 1, false), (81, 0, 0, 1, false), (81, 1, 1, 1, false), (84, 0, 0, 1, false), (84, 1, 1, 1, false), (84, 2, 2, 1, false), (85, 0, 0, 1, false), (85, 1, 1, 1, false), (85, 2, 2, 1, false), (87, 0, 0, 9, true), (87, 1, 9, 1, false), (87, 2, 10, 9, true), (88, 0, 0, 9, true), (88, 1, 9, 1, false), (88, 2, 10, 9, true), (97, 0, 0, 9, true), (97, 1, 9, 1, false), (97, 2, 10, 1, false), (98, 0, 0, 9, true), (98, 1, 9, 1, false), (98, 2, 10, 1, false), (103, 0, 0, 1, false), (103, 1, 1, 1, false), (103, 2, 2, 1, false), (103, 3, 3, 1, false), (104, 0, 0, 1, false), (104, 1, 1, 1, false), (104, 2, 2, 1, false), (104, 3, 3, 1, false), (105, 0, 0, 1, false), (105, 1, 1, 1, false), (105, 2, 2, 1, false), (105, 3, 3, 1, false), (106, 0, 0, 1, false), (106, 1, 1, 1, false), (106, 2, 2, 1, false), (106, 3, 3, 1, false), (113, 0, 0, 1, false), (113, 1, 1, 1, false), (113, 2, 2, 1, false), (114, 0, 0, 1, false), (114, 1, 1, 1, false), (114, 2, 2, 1, false), (122, 0, 0, 1, false), (122, 1, 1, 1, false), (122, 2, 2, 1, false), (122, 3, 3, 1, false), (122, 4, 4, 1, false), (122, 5, 5, 1, false), (122, 6, 6, 1, false), (122, 7, 7, 1, false), (123, 0, 0, 1, false), (123, 1, 1, 1, false), (123, 2, 2, 1, false), (123, 3, 3, 1, false), (123, 4, 4, 1, false), (123, 5, 5, 1, false), (123, 6, 6, 1, false), (123, 7, 7, 1, false), (147, 0, 0, 1, false), (147, 1, 1, 1, false), (181, 0, 0, 1, false), (181, 1, 1, 1, false), (181, 2, 2, 1, false), (181, 3, 3, 1, false), (182, 0, 0, 1, false), (182, 1, 1, 1, false), (182, 2, 2, 1, false), (182, 3, 3, 1, false), (193, 0, 0, 1, false), (193, 1, 1, 1, false), (193, 2, 2, 1, false), (193, 3, 3, 1, false), (193, 4, 4, 1, false), (193, 5, 5, 1, false), (193, 6, 6, 1, false), (193, 7, 7, 1, false), (193, 8, 8, 1, false), (193, 9, 9, 1, false), (193, 10, 10, 1, false), (194, 0, 0, 1, false), (194, 1, 1, 1, false), (194, 2, 2, 1, false), (194, 3, 3, 1, false), (194, 4, 4, 1, false), (194, 5, 5, 1, false), (194, 6, 6, 1, false), (194, 7, 7, 1, false), (194, 8, 8, 1, false), (194, 9, 9, 1, false), (194, 10, 10, 1, false)]
  sls := [(22, 15), (26, 11), (32, 1), (49, 4), (51, 4), (96, 3), (117, 3), (119, 1), (137, 1), (149, 2)]
  arrs := [(86, 3, 3), (183, 0, 1)]
  kinds := [(1, false, 1), (2, false, 1), (3, false, 1), (4, false, 1), (5, false, 1), (6, false, 1), (7, true, 4), (8, true, 4), (9, false, 1), (10, false, 1), (11, false, 1), (12, false, 1), (13, true, 2), (14, true, 2), (15, false, 1), (16, false, 1), (17, false, 1), (18, true, 1), (19, true, 1), (21, false, 1), (22, false, 1), (23, false, 1), (24, false, 1), (25, false, 1), (26, false, 1), (27, true, 2), (28, true, 2), (30, false, 1), (31, false, 1), (32, false, 1), (33, false, 1), (34, true, 9), (35, true, 9), (37, false, 1), (38, false, 1), (40, false, 1), (41, false, 1), (42, false, 1), (43, true, 15), (44, true, 15), (45, false, 1), (46, false, 1), (48, false, 1), (49, false, 1), (50, false, 1), (51, false, 1), (52, false, 1), (53, true, 4), (54, true, 4), (56, false, 1), (57, false, 1), (58, false, 1), (59, false, 1), (60, false, 1), (61, false, 1), (62, false, 1), (63, false, 1), (64, false, 1), (65, false, 1), (67, false, 1), (68, false, 1), (69, false, 1), (70, false, 1), (71, false, 1), (72, false, 1), (73, false, 1), (74, false, 1), (75, false, 1), (76, false, 1), (77, false, 1), (78, false, 1), (79, false, 1), (80, true, 2), (81, true, 2), (83, false, 1), (84, true, 3), (85, true, 3), (86, true, 9), (87, true, 19), (88, true, 19), (89, false, 1), (90, false, 1), (91, false, 1), (92, false, 1), (94, false, 1), (95, false, 1), (96, false, 1), (97, true, 11), (98, true, 11), (99, false, 1), (101, false, 1), (102, false, 1), (103, true, 4), (104, true, 4), (105, true, 4), (106, true, 4), (108, false, 1), (109, false, 1), (110, false, 1), (111, false, 1), (112, false, 1), (113, true, 3), (114, true, 3), (115, false, 1), (116, false, 1), (117, false, 1), (118, false, 1), (119, false, 1), (121, false, 1), (122, true, 8), (123, true, 8), (124, false, 1), (125, false, 1), (126, false, 1), (127, false, 1), (128, false, 1), (129, false, 1), (130, false, 1), (131, false, 1), (132, false, 1), (133, false, 1), (134, false, 1), (135, false, 1), (136, false, 1), (137, false, 1), (138, false, 1), (139, false, 1), (140, false, 1), (141, false, 1), (142, false, 1), (143, false, 1), (144, false, 1), (145, false, 1), (146, false, 1), (147, true, 2), (148, false, 1), (149, false, 1), (150, false, 1), (151, false, 1), (152, false, 1), (153, false, 1), (154, false, 1), (155, false, 1), (156, false, 1), (157, false, 1), (158, false, 1), (159, false, 1), (161, false, 1), (162, false, 1), (163, false, 1), (165, false, 1), (166, false, 1), (167, false, 1), (168, false, 1), (169, false, 1), (170, false, 1), (171, false, 1), (172, false, 1), (173, false, 1), (174, false, 1), (175, false, 1), (176, false, 1), (177, false, 1), (179, false, 1), (180, false, 1), (181, true, 4), (182, true, 4), (183, true, 0), (184, true, 0), (185, true, 0), (186, false, 1), (187, false, 1), (188, false, 1), (189, false, 1), (190, false, 1), (191, false, 1), (192, false, 1), (193, true, 11), (194, true, 11)]
  strs := [9, 10, 11]
  ptrs := [15, 16, 17, 25, 79, 99, 174, 177, 190]
  ints := [(2, .i64), (3, .i64), (5, .u8), (6, .u8), (12, .u64), (21, .i32), (45, .i64), (153, .u64), (159, .i64), (167, .u32), (169, .u64), (170, .u64), (187, .u8), (188, .u8), (191, .i32), (192, .i32)]
  fns := [3, 4, 5, 6, 7, 8, 9, 10, 11, 12, 13, 14, 15, 16, 17, 18, 19, 20, 21, 22, 23, 24, 25, 26, 27, 28, 29, 30, 31, 32, 33, 34, 35, 36, 37, 38, 39, 40, 41, 42, 43, 44, 45, 46, 47, 48, 49, 50, 51, 52, 53, 54, 55, 56, 57, 58, 59, 60, 61, 62, 63, 64, 65, 66, 67, 68, 69, 70, 71, 72, 73, 74, 75, 76, 77, 78, 79, 80, 81, 82, 83, 84, 85, 86, 87, 88, 89, 90, 91, 92, 93, 94, 95, 96, 97, 98, 99, 100, 101, 102, 103, 104, 105, 106, 107, 108, 109, 110, 111, 112, 113, 114, 115, 116, 117, 118, 119, 120, 121, 122, 123, 124, 125, 126, 127, 128, 129, 130, 131, 132]
theorem hT : TabOk Tryz.prog T := ⟨by kernel_rfl, by kernel_rfl, by kernel_rfl, by kernel_rfl, by kernel_rfl, by kernel_rfl, by kernel_rfl, by kernel_rfl⟩
theorem hM : Tryz.prog.follows .mixedOrders = true := by kernel_rfl

theorem z1 : (Tryz.prog.info? 1).bind (·.zero) = some (.nilFunc) := by kernel_rfl
theorem z7 : (Tryz.prog.info? 7).bind (·.zero) = some (.agg #[.int .i64 0, .int .i64 0, .bool false, .int .u8 0]) := by kernel_rfl
theorem bt7 : BuildT Tryz.prog 7 [.int .i64 0, .int .i64 0, .bool false, .int .u8 0] [(0, 1), (1, 1), (2, 1), (3, 1)] := buildT_of (fs := (Tryz.prog.underlying 7).elim #[] fun d => match d with | .struct fs => fs | _ => #[]) (by kernel_rfl) (by kernel_rfl) (by kernel_rfl) (by kernel_rfl)
theorem z8 : (Tryz.prog.info? 8).bind (·.zero) = some (.agg #[.int .i64 0, .int .i64 0, .bool false, .int .u8 0]) := by kernel_rfl
theorem bt8 : BuildT Tryz.prog 8 [.int .i64 0, .int .i64 0, .bool false, .int .u8 0] [(0, 1), (1, 1), (2, 1), (3, 1)] := buildT_of (fs := (Tryz.prog.underlying 8).elim #[] fun d => match d with | .struct fs => fs | _ => #[]) (by kernel_rfl) (by kernel_rfl) (by kernel_rfl) (by kernel_rfl)
theorem z13 : (Tryz.prog.info? 13).bind (·.zero) = some (.agg #[.string ⟨#[]⟩, .int .u64 0]) := by kernel_rfl
theorem bt13 : BuildT Tryz.prog 13 [.string ⟨#[]⟩, .int .u64 0] [(0, 1), (1, 1)] := buildT_of (fs := (Tryz.prog.underlying 13).elim #[] fun d => match d with | .struct fs => fs | _ => #[]) (by kernel_rfl) (by kernel_rfl) (by kernel_rfl) (by kernel_rfl)
theorem z14 : (Tryz.prog.info? 14).bind (·.zero) = some (.agg #[.string ⟨#[]⟩, .int .u64 0]) := by kernel_rfl
theorem bt14 : BuildT Tryz.prog 14 [.string ⟨#[]⟩, .int .u64 0] [(0, 1), (1, 1)] := buildT_of (fs := (Tryz.prog.underlying 14).elim #[] fun d => match d with | .struct fs => fs | _ => #[]) (by kernel_rfl) (by kernel_rfl) (by kernel_rfl) (by kernel_rfl)
theorem z15 : (Tryz.prog.info? 15).bind (·.zero) = some (.pointer none) := by kernel_rfl
theorem z16 : (Tryz.prog.info? 16).bind (·.zero) = some (.pointer none) := by kernel_rfl
theorem z17 : (Tryz.prog.info? 17).bind (·.zero) = some (.pointer none) := by kernel_rfl
theorem z18 : (Tryz.prog.info? 18).bind (·.zero) = some (.agg #[.pointer none]) := by kernel_rfl
theorem bt18 : BuildT Tryz.prog 18 [.pointer none] [(0, 1)] := buildT_of (fs := (Tryz.prog.underlying 18).elim #[] fun d => match d with | .struct fs => fs | _ => #[]) (by kernel_rfl) (by kernel_rfl) (by kernel_rfl) (by kernel_rfl)
theorem z19 : (Tryz.prog.info? 19).bind (·.zero) = some (.agg #[.pointer none]) := by kernel_rfl
theorem bt19 : BuildT Tryz.prog 19 [.pointer none] [(0, 1)] := buildT_of (fs := (Tryz.prog.underlying 19).elim #[] fun d => match d with | .struct fs => fs | _ => #[]) (by kernel_rfl) (by kernel_rfl) (by kernel_rfl) (by kernel_rfl)
theorem sl22 : SlT Tryz.prog 22 44 15 216 := slT_of (by kernel_rfl) (by kernel_rfl)
theorem z22 : (Tryz.prog.info? 22).bind (·.zero) = some (.slice none 0 0) := by kernel_rfl
theorem z23 : (Tryz.prog.info? 23).bind (·.zero) = some (.nilFunc) := by kernel_rfl
theorem z24 : (Tryz.prog.info? 24).bind (·.zero) = some (.nilFunc) := by kernel_rfl
theorem z25 : (Tryz.prog.info? 25).bind (·.zero) = some (.pointer none) := by kernel_rfl
theorem sl26 : SlT Tryz.prog 26 98 11 176 := slT_of (by kernel_rfl) (by kernel_rfl)
theorem z26 : (Tryz.prog.info? 26).bind (·.zero) = some (.slice none 0 0) := by kernel_rfl
theorem z27 : (Tryz.prog.info? 27).bind (·.zero) = some (.agg #[.string ⟨#[]⟩, .slice none 0 0]) := by kernel_rfl
theorem bt27 : BuildT Tryz.prog 27 [.string ⟨#[]⟩, .slice none 0 0] [(0, 1), (1, 1)] := buildT_of (fs := (Tryz.prog.underlying 27).elim #[] fun d => match d with | .struct fs => fs | _ => #[]) (by kernel_rfl) (by kernel_rfl) (by kernel_rfl) (by kernel_rfl)
theorem z28 : (Tryz.prog.info? 28).bind (·.zero) = some (.agg #[.string ⟨#[]⟩, .slice none 0 0]) := by kernel_rfl
theorem bt28 : BuildT Tryz.prog 28 [.string ⟨#[]⟩, .slice none 0 0] [(0, 1), (1, 1)] := buildT_of (fs := (Tryz.prog.underlying 28).elim #[] fun d => match d with | .struct fs => fs | _ => #[]) (by kernel_rfl) (by kernel_rfl) (by kernel_rfl) (by kernel_rfl)
theorem z30 : (Tryz.prog.info? 30).bind (·.zero) = some (.nilFunc) := by kernel_rfl
theorem mp31 : MpT Tryz.prog 31 4 (.bool false) := ⟨9, by kernel_rfl, by kernel_rfl, by kernel_rfl⟩
theorem sl32 : SlT Tryz.prog 32 9 1 16 := slT_of (by kernel_rfl) (by kernel_rfl)
theorem z32 : (Tryz.prog.info? 32).bind (·.zero) = some (.slice none 0 0) := by kernel_rfl
theorem z33 : (Tryz.prog.info? 33).bind (·.zero) = some (.nilFunc) := by kernel_rfl
theorem z34 : (Tryz.prog.info? 34).bind (·.zero) = some (.agg #[.string ⟨#[]⟩, .string ⟨#[]⟩, .string ⟨#[]⟩, .string ⟨#[]⟩, .string ⟨#[]⟩, .slice none 0 0, .slice none 0 0, .int .i64 0, .bool false]) := by kernel_rfl
theorem bt34 : BuildT Tryz.prog 34 [.string ⟨#[]⟩, .string ⟨#[]⟩, .string ⟨#[]⟩, .string ⟨#[]⟩, .string ⟨#[]⟩, .slice none 0 0, .slice none 0 0, .int .i64 0, .bool false] [(0, 1), (1, 1), (2, 1), (3, 1), (4, 1), (5, 1), (6, 1), (7, 1), (8, 1)] := buildT_of (fs := (Tryz.prog.underlying 34).elim #[] fun d => match d with | .struct fs => fs | _ => #[]) (by kernel_rfl) (by kernel_rfl) (by kernel_rfl) (by kernel_rfl)
theorem z35 : (Tryz.prog.info? 35).bind (·.zero) = some (.agg #[.string ⟨#[]⟩, .string ⟨#[]⟩, .string ⟨#[]⟩, .string ⟨#[]⟩, .string ⟨#[]⟩, .slice none 0 0, .slice none 0 0, .int .i64 0, .bool false]) := by kernel_rfl
theorem bt35 : BuildT Tryz.prog 35 [.string ⟨#[]⟩, .string ⟨#[]⟩, .string ⟨#[]⟩, .string ⟨#[]⟩, .string ⟨#[]⟩, .slice none 0 0, .slice none 0 0, .int .i64 0, .bool false] [(0, 1), (1, 1), (2, 1), (3, 1), (4, 1), (5, 1), (6, 1), (7, 1), (8, 1)] := buildT_of (fs := (Tryz.prog.underlying 35).elim #[] fun d => match d with | .struct fs => fs | _ => #[]) (by kernel_rfl) (by kernel_rfl) (by kernel_rfl) (by kernel_rfl)
theorem z37 : (Tryz.prog.info? 37).bind (·.zero) = some (.nilFunc) := by kernel_rfl
theorem z38 : (Tryz.prog.info? 38).bind (·.zero) = some (.nilFunc) := by kernel_rfl
theorem z40 : (Tryz.prog.info? 40).bind (·.zero) = some (.nilFunc) := by kernel_rfl
theorem z41 : (Tryz.prog.info? 41).bind (·.zero) = some (.nilFunc) := by kernel_rfl
theorem mp42 : MpT Tryz.prog 42 9 (.string ⟨#[]⟩) := ⟨9, by kernel_rfl, by kernel_rfl, by kernel_rfl⟩
theorem z43 : (Tryz.prog.info? 43).bind (·.zero) = some (.agg #[.int .i64 0, .int .i64 0, .int .i64 0, .string ⟨#[]⟩, .string ⟨#[]⟩, .string ⟨#[]⟩, .string ⟨#[]⟩, .string ⟨#[]⟩, .string ⟨#[]⟩, .string ⟨#[]⟩, .string ⟨#[]⟩, .slice none 0 0, .slice none 0 0, .int .i64 0, .bool false]) := by kernel_rfl
theorem bt43 : BuildT Tryz.prog 43 [.int .i64 0, .int .i64 0, .int .i64 0, .string ⟨#[]⟩, .string ⟨#[]⟩, .string ⟨#[]⟩, .string ⟨#[]⟩, .string ⟨#[]⟩, .string ⟨#[]⟩, .string ⟨#[]⟩, .string ⟨#[]⟩, .slice none 0 0, .slice none 0 0, .int .i64 0, .bool false] [(0, 1), (1, 1), (2, 1), (3, 1), (4, 1), (5, 1), (6, 9)] := buildT_of (fs := (Tryz.prog.underlying 43).elim #[] fun d => match d with | .struct fs => fs | _ => #[]) (by kernel_rfl) (by kernel_rfl) (by kernel_rfl) (by kernel_rfl)
theorem z44 : (Tryz.prog.info? 44).bind (·.zero) = some (.agg #[.int .i64 0, .int .i64 0, .int .i64 0, .string ⟨#[]⟩, .string ⟨#[]⟩, .string ⟨#[]⟩, .string ⟨#[]⟩, .string ⟨#[]⟩, .string ⟨#[]⟩, .string ⟨#[]⟩, .string ⟨#[]⟩, .slice none 0 0, .slice none 0 0, .int .i64 0, .bool false]) := by kernel_rfl
theorem bt44 : BuildT Tryz.prog 44 [.int .i64 0, .int .i64 0, .int .i64 0, .string ⟨#[]⟩, .string ⟨#[]⟩, .string ⟨#[]⟩, .string ⟨#[]⟩, .string ⟨#[]⟩, .string ⟨#[]⟩, .string ⟨#[]⟩, .string ⟨#[]⟩, .slice none 0 0, .slice none 0 0, .int .i64 0, .bool false] [(0, 1), (1, 1), (2, 1), (3, 1), (4, 1), (5, 1), (6, 9)] := buildT_of (fs := (Tryz.prog.underlying 44).elim #[] fun d => match d with | .struct fs => fs | _ => #[]) (by kernel_rfl) (by kernel_rfl) (by kernel_rfl) (by kernel_rfl)
theorem z46 : (Tryz.prog.info? 46).bind (·.zero) = some (.nilFunc) := by kernel_rfl
theorem z48 : (Tryz.prog.info? 48).bind (·.zero) = some (.nilFunc) := by kernel_rfl
theorem sl49 : SlT Tryz.prog 49 54 4 48 := slT_of (by kernel_rfl) (by kernel_rfl)
theorem z49 : (Tryz.prog.info? 49).bind (·.zero) = some (.slice none 0 0) := by kernel_rfl
theorem z50 : (Tryz.prog.info? 50).bind (·.zero) = some (.nilFunc) := by kernel_rfl
theorem sl51 : SlT Tryz.prog 51 104 4 48 := slT_of (by kernel_rfl) (by kernel_rfl)
theorem z51 : (Tryz.prog.info? 51).bind (·.zero) = some (.slice none 0 0) := by kernel_rfl
theorem z52 : (Tryz.prog.info? 52).bind (·.zero) = some (.nilFunc) := by kernel_rfl
theorem z53 : (Tryz.prog.info? 53).bind (·.zero) = some (.agg #[.string ⟨#[]⟩, .int .i64 0, .int .i64 0, .string ⟨#[]⟩]) := by kernel_rfl
theorem bt53 : BuildT Tryz.prog 53 [.string ⟨#[]⟩, .int .i64 0, .int .i64 0, .string ⟨#[]⟩] [(0, 1), (1, 1), (2, 1), (3, 1)] := buildT_of (fs := (Tryz.prog.underlying 53).elim #[] fun d => match d with | .struct fs => fs | _ => #[]) (by kernel_rfl) (by kernel_rfl) (by kernel_rfl) (by kernel_rfl)
theorem z54 : (Tryz.prog.info? 54).bind (·.zero) = some (.agg #[.string ⟨#[]⟩, .int .i64 0, .int .i64 0, .string ⟨#[]⟩]) := by kernel_rfl
theorem bt54 : BuildT Tryz.prog 54 [.string ⟨#[]⟩, .int .i64 0, .int .i64 0, .string ⟨#[]⟩] [(0, 1), (1, 1), (2, 1), (3, 1)] := buildT_of (fs := (Tryz.prog.underlying 54).elim #[] fun d => match d with | .struct fs => fs | _ => #[]) (by kernel_rfl) (by kernel_rfl) (by kernel_rfl) (by kernel_rfl)
theorem z56 : (Tryz.prog.info? 56).bind (·.zero) = some (.nilFunc) := by kernel_rfl
theorem z57 : (Tryz.prog.info? 57).bind (·.zero) = some (.nilFunc) := by kernel_rfl
theorem z58 : (Tryz.prog.info? 58).bind (·.zero) = some (.nilFunc) := by kernel_rfl
theorem z59 : (Tryz.prog.info? 59).bind (·.zero) = some (.nilFunc) := by kernel_rfl
theorem z60 : (Tryz.prog.info? 60).bind (·.zero) = some (.nilFunc) := by kernel_rfl
theorem z61 : (Tryz.prog.info? 61).bind (·.zero) = some (.nilFunc) := by kernel_rfl
theorem z62 : (Tryz.prog.info? 62).bind (·.zero) = some (.nilFunc) := by kernel_rfl
theorem z63 : (Tryz.prog.info? 63).bind (·.zero) = some (.nilFunc) := by kernel_rfl
theorem z64 : (Tryz.prog.info? 64).bind (·.zero) = some (.nilFunc) := by kernel_rfl
theorem z65 : (Tryz.prog.info? 65).bind (·.zero) = some (.nilFunc) := by kernel_rfl
theorem z67 : (Tryz.prog.info? 67).bind (·.zero) = some (.nilFunc) := by kernel_rfl
theorem z68 : (Tryz.prog.info? 68).bind (·.zero) = some (.nilFunc) := by kernel_rfl
theorem z69 : (Tryz.prog.info? 69).bind (·.zero) = some (.nilFunc) := by kernel_rfl
theorem z70 : (Tryz.prog.info? 70).bind (·.zero) = some (.nilFunc) := by kernel_rfl
theorem z71 : (Tryz.prog.info? 71).bind (·.zero) = some (.nilFunc) := by kernel_rfl
theorem z72 : (Tryz.prog.info? 72).bind (·.zero) = some (.nilFunc) := by kernel_rfl
theorem z73 : (Tryz.prog.info? 73).bind (·.zero) = some (.nilFunc) := by kernel_rfl
theorem z74 : (Tryz.prog.info? 74).bind (·.zero) = some (.nilFunc) := by kernel_rfl
theorem z75 : (Tryz.prog.info? 75).bind (·.zero) = some (.nilFunc) := by kernel_rfl
theorem z76 : (Tryz.prog.info? 76).bind (·.zero) = some (.nilFunc) := by kernel_rfl
theorem z77 : (Tryz.prog.info? 77).bind (·.zero) = some (.nilFunc) := by kernel_rfl
theorem mp78 : MpT Tryz.prog 78 79 (.pointer none) := ⟨9, by kernel_rfl, by kernel_rfl, by kernel_rfl⟩
theorem z79 : (Tryz.prog.info? 79).bind (·.zero) = some (.pointer none) := by kernel_rfl
theorem z80 : (Tryz.prog.info? 80).bind (·.zero) = some (.agg #[.string ⟨#[]⟩, .map none]) := by kernel_rfl
theorem bt80 : BuildT Tryz.prog 80 [.string ⟨#[]⟩, .map none] [(0, 1), (1, 1)] := buildT_of (fs := (Tryz.prog.underlying 80).elim #[] fun d => match d with | .struct fs => fs | _ => #[]) (by kernel_rfl) (by kernel_rfl) (by kernel_rfl) (by kernel_rfl)
theorem z81 : (Tryz.prog.info? 81).bind (·.zero) = some (.agg #[.string ⟨#[]⟩, .map none]) := by kernel_rfl
theorem bt81 : BuildT Tryz.prog 81 [.string ⟨#[]⟩, .map none] [(0, 1), (1, 1)] := buildT_of (fs := (Tryz.prog.underlying 81).elim #[] fun d => match d with | .struct fs => fs | _ => #[]) (by kernel_rfl) (by kernel_rfl) (by kernel_rfl) (by kernel_rfl)
theorem z83 : (Tryz.prog.info? 83).bind (·.zero) = some (.nilFunc) := by kernel_rfl
theorem z84 : (Tryz.prog.info? 84).bind (·.zero) = some (.agg #[.int .i64 0, .string ⟨#[]⟩, .slice none 0 0]) := by kernel_rfl
theorem bt84 : BuildT Tryz.prog 84 [.int .i64 0, .string ⟨#[]⟩, .slice none 0 0] [(0, 1), (1, 1), (2, 1)] := buildT_of (fs := (Tryz.prog.underlying 84).elim #[] fun d => match d with | .struct fs => fs | _ => #[]) (by kernel_rfl) (by kernel_rfl) (by kernel_rfl) (by kernel_rfl)
theorem z85 : (Tryz.prog.info? 85).bind (·.zero) = some (.agg #[.int .i64 0, .string ⟨#[]⟩, .slice none 0 0]) := by kernel_rfl
theorem bt85 : BuildT Tryz.prog 85 [.int .i64 0, .string ⟨#[]⟩, .slice none 0 0] [(0, 1), (1, 1), (2, 1)] := buildT_of (fs := (Tryz.prog.underlying 85).elim #[] fun d => match d with | .struct fs => fs | _ => #[]) (by kernel_rfl) (by kernel_rfl) (by kernel_rfl) (by kernel_rfl)
theorem z86 : (Tryz.prog.info? 86).bind (·.zero) = some (.agg #[.int .i64 0, .string ⟨#[]⟩, .slice none 0 0, .int .i64 0, .string ⟨#[]⟩, .slice none 0 0, .int .i64 0, .string ⟨#[]⟩, .slice none 0 0]) := by kernel_rfl
theorem z87 : (Tryz.prog.info? 87).bind (·.zero) = some (.agg #[.string ⟨#[]⟩, .string ⟨#[]⟩, .string ⟨#[]⟩, .string ⟨#[]⟩, .string ⟨#[]⟩, .slice none 0 0, .slice none 0 0, .int .i64 0, .bool false, .int .i64 0, .int .i64 0, .string ⟨#[]⟩, .slice none 0 0, .int .i64 0, .string ⟨#[]⟩, .slice none 0 0, .int .i64 0, .string ⟨#[]⟩, .slice none 0 0]) := by kernel_rfl
theorem bt87 : BuildT Tryz.prog 87 [.string ⟨#[]⟩, .string ⟨#[]⟩, .string ⟨#[]⟩, .string ⟨#[]⟩, .string ⟨#[]⟩, .slice none 0 0, .slice none 0 0, .int .i64 0, .bool false, .int .i64 0, .int .i64 0, .string ⟨#[]⟩, .slice none 0 0, .int .i64 0, .string ⟨#[]⟩, .slice none 0 0, .int .i64 0, .string ⟨#[]⟩, .slice none 0 0] [(0, 9), (9, 1), (10, 9)] := buildT_of (fs := (Tryz.prog.underlying 87).elim #[] fun d => match d with | .struct fs => fs | _ => #[]) (by kernel_rfl) (by kernel_rfl) (by kernel_rfl) (by kernel_rfl)
theorem z88 : (Tryz.prog.info? 88).bind (·.zero) = some (.agg #[.string ⟨#[]⟩, .string ⟨#[]⟩, .string ⟨#[]⟩, .string ⟨#[]⟩, .string ⟨#[]⟩, .slice none 0 0, .slice none 0 0, .int .i64 0, .bool false, .int .i64 0, .int .i64 0, .string ⟨#[]⟩, .slice none 0 0, .int .i64 0, .string ⟨#[]⟩, .slice none 0 0, .int .i64 0, .string ⟨#[]⟩, .slice none 0 0]) := by kernel_rfl
theorem bt88 : BuildT Tryz.prog 88 [.string ⟨#[]⟩, .string ⟨#[]⟩, .string ⟨#[]⟩, .string ⟨#[]⟩, .string ⟨#[]⟩, .slice none 0 0, .slice none 0 0, .int .i64 0, .bool false, .int .i64 0, .int .i64 0, .string ⟨#[]⟩, .slice none 0 0, .int .i64 0, .string ⟨#[]⟩, .slice none 0 0, .int .i64 0, .string ⟨#[]⟩, .slice none 0 0] [(0, 9), (9, 1), (10, 9)] := buildT_of (fs := (Tryz.prog.underlying 88).elim #[] fun d => match d with | .struct fs => fs | _ => #[]) (by kernel_rfl) (by kernel_rfl) (by kernel_rfl) (by kernel_rfl)
theorem z89 : (Tryz.prog.info? 89).bind (·.zero) = some (.nilFunc) := by kernel_rfl
theorem z90 : (Tryz.prog.info? 90).bind (·.zero) = some (.nilFunc) := by kernel_rfl
theorem z91 : (Tryz.prog.info? 91).bind (·.zero) = some (.nilFunc) := by kernel_rfl
theorem z92 : (Tryz.prog.info? 92).bind (·.zero) = some (.nilFunc) := by kernel_rfl
theorem z94 : (Tryz.prog.info? 94).bind (·.zero) = some (.nilFunc) := by kernel_rfl
theorem z95 : (Tryz.prog.info? 95).bind (·.zero) = some (.nilFunc) := by kernel_rfl
theorem sl96 : SlT Tryz.prog 96 114 3 48 := slT_of (by kernel_rfl) (by kernel_rfl)
theorem z96 : (Tryz.prog.info? 96).bind (·.zero) = some (.slice none 0 0) := by kernel_rfl
theorem z97 : (Tryz.prog.info? 97).bind (·.zero) = some (.agg #[.string ⟨#[]⟩, .string ⟨#[]⟩, .string ⟨#[]⟩, .string ⟨#[]⟩, .string ⟨#[]⟩, .slice none 0 0, .slice none 0 0, .int .i64 0, .bool false, .int .i64 0, .slice none 0 0]) := by kernel_rfl
theorem bt97 : BuildT Tryz.prog 97 [.string ⟨#[]⟩, .string ⟨#[]⟩, .string ⟨#[]⟩, .string ⟨#[]⟩, .string ⟨#[]⟩, .slice none 0 0, .slice none 0 0, .int .i64 0, .bool false, .int .i64 0, .slice none 0 0] [(0, 9), (9, 1), (10, 1)] := buildT_of (fs := (Tryz.prog.underlying 97).elim #[] fun d => match d with | .struct fs => fs | _ => #[]) (by kernel_rfl) (by kernel_rfl) (by kernel_rfl) (by kernel_rfl)
theorem z98 : (Tryz.prog.info? 98).bind (·.zero) = some (.agg #[.string ⟨#[]⟩, .string ⟨#[]⟩, .string ⟨#[]⟩, .string ⟨#[]⟩, .string ⟨#[]⟩, .slice none 0 0, .slice none 0 0, .int .i64 0, .bool false, .int .i64 0, .slice none 0 0]) := by kernel_rfl
theorem bt98 : BuildT Tryz.prog 98 [.string ⟨#[]⟩, .string ⟨#[]⟩, .string ⟨#[]⟩, .string ⟨#[]⟩, .string ⟨#[]⟩, .slice none 0 0, .slice none 0 0, .int .i64 0, .bool false, .int .i64 0, .slice none 0 0] [(0, 9), (9, 1), (10, 1)] := buildT_of (fs := (Tryz.prog.underlying 98).elim #[] fun d => match d with | .struct fs => fs | _ => #[]) (by kernel_rfl) (by kernel_rfl) (by kernel_rfl) (by kernel_rfl)
theorem z99 : (Tryz.prog.info? 99).bind (·.zero) = some (.pointer none) := by kernel_rfl
theorem z101 : (Tryz.prog.info? 101).bind (·.zero) = some (.nilFunc) := by kernel_rfl
theorem z102 : (Tryz.prog.info? 102).bind (·.zero) = some (.nilFunc) := by kernel_rfl
theorem z103 : (Tryz.prog.info? 103).bind (·.zero) = some (.agg #[.string ⟨#[]⟩, .string ⟨#[]⟩, .int .i64 0, .int .i64 0]) := by kernel_rfl
theorem bt103 : BuildT Tryz.prog 103 [.string ⟨#[]⟩, .string ⟨#[]⟩, .int .i64 0, .int .i64 0] [(0, 1), (1, 1), (2, 1), (3, 1)] := buildT_of (fs := (Tryz.prog.underlying 103).elim #[] fun d => match d with | .struct fs => fs | _ => #[]) (by kernel_rfl) (by kernel_rfl) (by kernel_rfl) (by kernel_rfl)
theorem z104 : (Tryz.prog.info? 104).bind (·.zero) = some (.agg #[.string ⟨#[]⟩, .string ⟨#[]⟩, .int .i64 0, .int .i64 0]) := by kernel_rfl
theorem bt104 : BuildT Tryz.prog 104 [.string ⟨#[]⟩, .string ⟨#[]⟩, .int .i64 0, .int .i64 0] [(0, 1), (1, 1), (2, 1), (3, 1)] := buildT_of (fs := (Tryz.prog.underlying 104).elim #[] fun d => match d with | .struct fs => fs | _ => #[]) (by kernel_rfl) (by kernel_rfl) (by kernel_rfl) (by kernel_rfl)
theorem z105 : (Tryz.prog.info? 105).bind (·.zero) = some (.agg #[.string ⟨#[]⟩, .bool false, .bool false, .int .i64 0]) := by kernel_rfl
theorem bt105 : BuildT Tryz.prog 105 [.string ⟨#[]⟩, .bool false, .bool false, .int .i64 0] [(0, 1), (1, 1), (2, 1), (3, 1)] := buildT_of (fs := (Tryz.prog.underlying 105).elim #[] fun d => match d with | .struct fs => fs | _ => #[]) (by kernel_rfl) (by kernel_rfl) (by kernel_rfl) (by kernel_rfl)
theorem z106 : (Tryz.prog.info? 106).bind (·.zero) = some (.agg #[.string ⟨#[]⟩, .bool false, .bool false, .int .i64 0]) := by kernel_rfl
theorem bt106 : BuildT Tryz.prog 106 [.string ⟨#[]⟩, .bool false, .bool false, .int .i64 0] [(0, 1), (1, 1), (2, 1), (3, 1)] := buildT_of (fs := (Tryz.prog.underlying 106).elim #[] fun d => match d with | .struct fs => fs | _ => #[]) (by kernel_rfl) (by kernel_rfl) (by kernel_rfl) (by kernel_rfl)
theorem z108 : (Tryz.prog.info? 108).bind (·.zero) = some (.nilFunc) := by kernel_rfl
theorem z109 : (Tryz.prog.info? 109).bind (·.zero) = some (.nilFunc) := by kernel_rfl
theorem z110 : (Tryz.prog.info? 110).bind (·.zero) = some (.nilFunc) := by kernel_rfl
theorem z111 : (Tryz.prog.info? 111).bind (·.zero) = some (.nilFunc) := by kernel_rfl
theorem z112 : (Tryz.prog.info? 112).bind (·.zero) = some (.nilFunc) := by kernel_rfl
theorem z113 : (Tryz.prog.info? 113).bind (·.zero) = some (.agg #[.int .i64 0, .string ⟨#[]⟩, .slice none 0 0]) := by kernel_rfl
theorem bt113 : BuildT Tryz.prog 113 [.int .i64 0, .string ⟨#[]⟩, .slice none 0 0] [(0, 1), (1, 1), (2, 1)] := buildT_of (fs := (Tryz.prog.underlying 113).elim #[] fun d => match d with | .struct fs => fs | _ => #[]) (by kernel_rfl) (by kernel_rfl) (by kernel_rfl) (by kernel_rfl)
theorem z114 : (Tryz.prog.info? 114).bind (·.zero) = some (.agg #[.int .i64 0, .string ⟨#[]⟩, .slice none 0 0]) := by kernel_rfl
theorem bt114 : BuildT Tryz.prog 114 [.int .i64 0, .string ⟨#[]⟩, .slice none 0 0] [(0, 1), (1, 1), (2, 1)] := buildT_of (fs := (Tryz.prog.underlying 114).elim #[] fun d => match d with | .struct fs => fs | _ => #[]) (by kernel_rfl) (by kernel_rfl) (by kernel_rfl) (by kernel_rfl)
theorem z115 : (Tryz.prog.info? 115).bind (·.zero) = some (.nilFunc) := by kernel_rfl
theorem z116 : (Tryz.prog.info? 116).bind (·.zero) = some (.nilFunc) := by kernel_rfl
theorem sl117 : SlT Tryz.prog 117 85 3 48 := slT_of (by kernel_rfl) (by kernel_rfl)
theorem z117 : (Tryz.prog.info? 117).bind (·.zero) = some (.slice none 0 0) := by kernel_rfl
theorem z118 : (Tryz.prog.info? 118).bind (·.zero) = some (.nilFunc) := by kernel_rfl
theorem sl119 : SlT Tryz.prog 119 99 1 8 := slT_of (by kernel_rfl) (by kernel_rfl)
theorem z119 : (Tryz.prog.info? 119).bind (·.zero) = some (.slice none 0 0) := by kernel_rfl
theorem z121 : (Tryz.prog.info? 121).bind (·.zero) = some (.nilFunc) := by kernel_rfl
theorem z122 : (Tryz.prog.info? 122).bind (·.zero) = some (.agg #[.string ⟨#[]⟩, .string ⟨#[]⟩, .int .i64 0, .int .i64 0, .bool false, .int .i64 0, .string ⟨#[]⟩, .bool false]) := by kernel_rfl
theorem bt122 : BuildT Tryz.prog 122 [.string ⟨#[]⟩, .string ⟨#[]⟩, .int .i64 0, .int .i64 0, .bool false, .int .i64 0, .string ⟨#[]⟩, .bool false] [(0, 1), (1, 1), (2, 1), (3, 1), (4, 1), (5, 1), (6, 1), (7, 1)] := buildT_of (fs := (Tryz.prog.underlying 122).elim #[] fun d => match d with | .struct fs => fs | _ => #[]) (by kernel_rfl) (by kernel_rfl) (by kernel_rfl) (by kernel_rfl)
theorem z123 : (Tryz.prog.info? 123).bind (·.zero) = some (.agg #[.string ⟨#[]⟩, .string ⟨#[]⟩, .int .i64 0, .int .i64 0, .bool false, .int .i64 0, .string ⟨#[]⟩, .bool false]) := by kernel_rfl
theorem bt123 : BuildT Tryz.prog 123 [.string ⟨#[]⟩, .string ⟨#[]⟩, .int .i64 0, .int .i64 0, .bool false, .int .i64 0, .string ⟨#[]⟩, .bool false] [(0, 1), (1, 1), (2, 1), (3, 1), (4, 1), (5, 1), (6, 1), (7, 1)] := buildT_of (fs := (Tryz.prog.underlying 123).elim #[] fun d => match d with | .struct fs => fs | _ => #[]) (by kernel_rfl) (by kernel_rfl) (by kernel_rfl) (by kernel_rfl)
theorem z124 : (Tryz.prog.info? 124).bind (·.zero) = some (.nilFunc) := by kernel_rfl
theorem z125 : (Tryz.prog.info? 125).bind (·.zero) = some (.nilFunc) := by kernel_rfl
theorem z126 : (Tryz.prog.info? 126).bind (·.zero) = some (.nilFunc) := by kernel_rfl
theorem z127 : (Tryz.prog.info? 127).bind (·.zero) = some (.nilFunc) := by kernel_rfl
theorem z128 : (Tryz.prog.info? 128).bind (·.zero) = some (.nilFunc) := by kernel_rfl
theorem z129 : (Tryz.prog.info? 129).bind (·.zero) = some (.nilFunc) := by kernel_rfl
theorem z130 : (Tryz.prog.info? 130).bind (·.zero) = some (.nilFunc) := by kernel_rfl
theorem z131 : (Tryz.prog.info? 131).bind (·.zero) = some (.nilFunc) := by kernel_rfl
theorem z132 : (Tryz.prog.info? 132).bind (·.zero) = some (.nilFunc) := by kernel_rfl
theorem z133 : (Tryz.prog.info? 133).bind (·.zero) = some (.nilFunc) := by kernel_rfl
theorem z134 : (Tryz.prog.info? 134).bind (·.zero) = some (.nilFunc) := by kernel_rfl
theorem z135 : (Tryz.prog.info? 135).bind (·.zero) = some (.nilFunc) := by kernel_rfl
theorem z136 : (Tryz.prog.info? 136).bind (·.zero) = some (.nilFunc) := by kernel_rfl
theorem sl137 : SlT Tryz.prog 137 3 1 8 := slT_of (by kernel_rfl) (by kernel_rfl)
theorem z137 : (Tryz.prog.info? 137).bind (·.zero) = some (.slice none 0 0) := by kernel_rfl
theorem z138 : (Tryz.prog.info? 138).bind (·.zero) = some (.nilFunc) := by kernel_rfl
theorem z139 : (Tryz.prog.info? 139).bind (·.zero) = some (.nilFunc) := by kernel_rfl
theorem z140 : (Tryz.prog.info? 140).bind (·.zero) = some (.nilFunc) := by kernel_rfl
theorem z141 : (Tryz.prog.info? 141).bind (·.zero) = some (.nilFunc) := by kernel_rfl
theorem z142 : (Tryz.prog.info? 142).bind (·.zero) = some (.nilFunc) := by kernel_rfl
theorem z143 : (Tryz.prog.info? 143).bind (·.zero) = some (.nilFunc) := by kernel_rfl
theorem z144 : (Tryz.prog.info? 144).bind (·.zero) = some (.nilFunc) := by kernel_rfl
theorem z145 : (Tryz.prog.info? 145).bind (·.zero) = some (.nilFunc) := by kernel_rfl
theorem z146 : (Tryz.prog.info? 146).bind (·.zero) = some (.nilFunc) := by kernel_rfl
theorem z147 : (Tryz.prog.info? 147).bind (·.zero) = some (.agg #[.nilFunc, .int .i64 0]) := by kernel_rfl
theorem bt147 : BuildT Tryz.prog 147 [.nilFunc, .int .i64 0] [(0, 1), (1, 1)] := buildT_of (fs := (Tryz.prog.underlying 147).elim #[] fun d => match d with | .struct fs => fs | _ => #[]) (by kernel_rfl) (by kernel_rfl) (by kernel_rfl) (by kernel_rfl)
theorem z148 : (Tryz.prog.info? 148).bind (·.zero) = some (.nilFunc) := by kernel_rfl
theorem sl149 : SlT Tryz.prog 149 147 2 16 := slT_of (by kernel_rfl) (by kernel_rfl)
theorem z149 : (Tryz.prog.info? 149).bind (·.zero) = some (.slice none 0 0) := by kernel_rfl
theorem z150 : (Tryz.prog.info? 150).bind (·.zero) = some (.nilFunc) := by kernel_rfl
theorem z151 : (Tryz.prog.info? 151).bind (·.zero) = some (.nilFunc) := by kernel_rfl
theorem z152 : (Tryz.prog.info? 152).bind (·.zero) = some (.nilFunc) := by kernel_rfl
theorem z154 : (Tryz.prog.info? 154).bind (·.zero) = some (.nilFunc) := by kernel_rfl
theorem z155 : (Tryz.prog.info? 155).bind (·.zero) = some (.nilFunc) := by kernel_rfl
theorem z156 : (Tryz.prog.info? 156).bind (·.zero) = some (.nilFunc) := by kernel_rfl
theorem z157 : (Tryz.prog.info? 157).bind (·.zero) = some (.nilFunc) := by kernel_rfl
theorem z158 : (Tryz.prog.info? 158).bind (·.zero) = some (.nilFunc) := by kernel_rfl
theorem z161 : (Tryz.prog.info? 161).bind (·.zero) = some (.nilFunc) := by kernel_rfl
theorem z162 : (Tryz.prog.info? 162).bind (·.zero) = some (.nilFunc) := by kernel_rfl
theorem z163 : (Tryz.prog.info? 163).bind (·.zero) = some (.nilFunc) := by kernel_rfl
theorem z165 : (Tryz.prog.info? 165).bind (·.zero) = some (.nilFunc) := by kernel_rfl
theorem z166 : (Tryz.prog.info? 166).bind (·.zero) = some (.nilFunc) := by kernel_rfl
theorem z168 : (Tryz.prog.info? 168).bind (·.zero) = some (.nilFunc) := by kernel_rfl
theorem z171 : (Tryz.prog.info? 171).bind (·.zero) = some (.nilFunc) := by kernel_rfl
theorem z172 : (Tryz.prog.info? 172).bind (·.zero) = some (.nilFunc) := by kernel_rfl
theorem z173 : (Tryz.prog.info? 173).bind (·.zero) = some (.nilFunc) := by kernel_rfl
theorem z174 : (Tryz.prog.info? 174).bind (·.zero) = some (.pointer none) := by kernel_rfl
theorem z175 : (Tryz.prog.info? 175).bind (·.zero) = some (.nilFunc) := by kernel_rfl
theorem z176 : (Tryz.prog.info? 176).bind (·.zero) = some (.nilFunc) := by kernel_rfl
theorem z177 : (Tryz.prog.info? 177).bind (·.zero) = some (.pointer none) := by kernel_rfl
theorem z179 : (Tryz.prog.info? 179).bind (·.zero) = some (.nilFunc) := by kernel_rfl
theorem z180 : (Tryz.prog.info? 180).bind (·.zero) = some (.nilFunc) := by kernel_rfl
theorem z181 : (Tryz.prog.info? 181).bind (·.zero) = some (.agg #[.pointer none, .pointer none, .pointer none, .string ⟨#[]⟩]) := by kernel_rfl
theorem bt181 : BuildT Tryz.prog 181 [.pointer none, .pointer none, .pointer none, .string ⟨#[]⟩] [(0, 1), (1, 1), (2, 1), (3, 1)] := buildT_of (fs := (Tryz.prog.underlying 181).elim #[] fun d => match d with | .struct fs => fs | _ => #[]) (by kernel_rfl) (by kernel_rfl) (by kernel_rfl) (by kernel_rfl)
theorem z182 : (Tryz.prog.info? 182).bind (·.zero) = some (.agg #[.pointer none, .pointer none, .pointer none, .string ⟨#[]⟩]) := by kernel_rfl
theorem bt182 : BuildT Tryz.prog 182 [.pointer none, .pointer none, .pointer none, .string ⟨#[]⟩] [(0, 1), (1, 1), (2, 1), (3, 1)] := buildT_of (fs := (Tryz.prog.underlying 182).elim #[] fun d => match d with | .struct fs => fs | _ => #[]) (by kernel_rfl) (by kernel_rfl) (by kernel_rfl) (by kernel_rfl)
theorem z183 : (Tryz.prog.info? 183).bind (·.zero) = some (.agg #[]) := by kernel_rfl
theorem z184 : (Tryz.prog.info? 184).bind (·.zero) = some (.agg #[]) := by kernel_rfl
theorem z185 : (Tryz.prog.info? 185).bind (·.zero) = some (.agg #[]) := by kernel_rfl
theorem z186 : (Tryz.prog.info? 186).bind (·.zero) = some (.nilFunc) := by kernel_rfl
theorem z189 : (Tryz.prog.info? 189).bind (·.zero) = some (.nilFunc) := by kernel_rfl
theorem z190 : (Tryz.prog.info? 190).bind (·.zero) = some (.pointer none) := by kernel_rfl
theorem z193 : (Tryz.prog.info? 193).bind (·.zero) = some (.agg #[.int .u64 0, .int .u64 0, .int .u32 0, .int .u8 0, .int .u8 0, .int .u8 0, .int .u8 0, .nilFunc, .pointer none, .int .i32 0, .int .i32 0]) := by kernel_rfl
theorem bt193 : BuildT Tryz.prog 193 [.int .u64 0, .int .u64 0, .int .u32 0, .int .u8 0, .int .u8 0, .int .u8 0, .int .u8 0, .nilFunc, .pointer none, .int .i32 0, .int .i32 0] [(0, 1), (1, 1), (2, 1), (3, 1), (4, 1), (5, 1), (6, 1), (7, 1), (8, 1), (9, 1), (10, 1)] := buildT_of (fs := (Tryz.prog.underlying 193).elim #[] fun d => match d with | .struct fs => fs | _ => #[]) (by kernel_rfl) (by kernel_rfl) (by kernel_rfl) (by kernel_rfl)
theorem z194 : (Tryz.prog.info? 194).bind (·.zero) = some (.agg #[.int .u64 0, .int .u64 0, .int .u32 0, .int .u8 0, .int .u8 0, .int .u8 0, .int .u8 0, .nilFunc, .pointer none, .int .i32 0, .int .i32 0]) := by kernel_rfl
theorem bt194 : BuildT Tryz.prog 194 [.int .u64 0, .int .u64 0, .int .u32 0, .int .u8 0, .int .u8 0, .int .u8 0, .int .u8 0, .nilFunc, .pointer none, .int .i32 0, .int .i32 0] [(0, 1), (1, 1), (2, 1), (3, 1), (4, 1), (5, 1), (6, 1), (7, 1), (8, 1), (9, 1), (10, 1)] := buildT_of (fs := (Tryz.prog.underlying 194).elim #[] fun d => match d with | .struct fs => fs | _ => #[]) (by kernel_rfl) (by kernel_rfl) (by kernel_rfl) (by kernel_rfl)
end Go.Proofs.YtfbjpfgglgffgaaGreat
