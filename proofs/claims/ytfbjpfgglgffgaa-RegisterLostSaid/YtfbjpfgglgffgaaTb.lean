/- The types of this translation, as the kit asks of them; held against the program by closed facts. Printed by a program of ours (tab.py). -/
import Derived.Test.YtfbjpfgglgffgaaProg
import Derived.Test.YtfbjpfgglgffgaaSkc
import Derived.KernelRfl
namespace Go.Proofs.Ytfbjpfgglgffgaa
open Go Go.SK
def T : Tab where
  flds := [(7, 0, 0, 1, false), (7, 1, 1, 1, false), (7, 2, 2, 1, false), (7, 3, 3, 1, false), (8, 0, 0, 1, false), (8, 1, 1, 1, false), (8, 2, 2, 1, false), (8, 3, 3, 1, false), (13, 0, 0, 1, false), (13, 1, 1, 1, false), (14, 0, 0, 1, false), (14, 1, 1, 1, false), (18, 0, 0, 1, false), (19, 0, 0, 1, false), (27, 0, 0, 1, false), (27, 1, 1, 1, false), (28, 0, 0, 1, false), (28, 1, 1, 1, false), (33, 0, 0, 1, false), (33, 1, 1, 1, false), (33, 2, 2, 1, false), (33, 3, 3, 1, false), (33, 4, 4, 1, false), (33, 5, 5, 1, false), (33, 6, 6, 1, false), (33, 7, 7, 1, false), (33, 8, 8, 1, false), (34, 0, 0, 1, false), (34, 1, 1, 1, false), (34, 2, 2, 1, false), (34, 3, 3, 1, false), (34, 4, 4, 1, false), (34, 5, 5, 1, false), (34, 6, 6, 1, false), (34, 7, 7, 1, false), (34, 8, 8, 1, false), (37, 0, 0, 1, false), (37, 1, 1, 1, false), (37, 2, 2, 1, false), (37, 3, 3, 1, false), (37, 4, 4, 1, false), (37, 5, 5, 1, false), (37, 6, 6, 9, true), (38, 0, 0, 1, false), (38, 1, 1, 1, false), (38, 2, 2, 1, false), (38, 3, 3, 1, false), (38, 4, 4, 1, false), (38, 5, 5, 1, false), (38, 6, 6, 9, true), (49, 0, 0, 1, false), (49, 1, 1, 1, false), (49, 2, 2, 1, false), (49, 3, 3, 1, false), (50, 0, 0, 1, false), (50, 1, 1, 1, false), (50, 2, 2, 1, false), (50, 3, 3, 1, false), (68, 0, 0, 1, false), (68, 1, 1, 1, false), (69, 0, 0, 1, false), (69, 1, 1, 1, false), (70, 0, 0, 1, false), (70, 1, 1, 1, false), (70, 2, 2, 1, false), (71, 0, 0, 1, false), (71, 1, 1, 1, false), (71, 2, 2, 1, false), (73, 0, 0, 9, true), (73, 1, 9, 1, false), (73, 2, 10, 9, true), (74, 0, 0, 9, true), (74, 1, 9, 1, false), (74, 2, 10, 9, true), (82, 0, 0, 1, false), (82, 1, 1, 1, false), (82, 2, 2, 1, false), (82, 3, 3, 1, false), (82, 4, 4, 1, false), (82, 5, 5, 1, false), (82, 6, 6, 1, false), (82, 7, 7, 1, false), (83, 0, 0, 1, false), (83, 1, 1, 1, false), (83, 2, 2, 1, false), (83, 3, 3, 1, false), (83, 4, 4, 1, false), (83, 5, 5, 1, false), (83, 6, 6, 1, false), (83, 7, 7, 1, false), (85, 0, 0, 1, false), (85, 1, 1, 1, false), (85, 2, 2, 1, false), (85, 3, 3, 1, false), (86, 0, 0, 1, false), (86, 1, 1, 1, false), (86, 2, 2, 1, false), (86, 3, 3, 1, false), (102, 0, 0, 9, true), (102, 1, 9, 1, false), (102, 2, 10, 1, false), (103, 0, 0, 9, true), (103, 1, 9, 1, false), (103, 2, 10, 1, false), (114, 0, 0, 1, false), (114, 1, 1, 1, false), (125, 0, 0, 1, false), (125, 1, 1, 1, false), (125, 2, 2, 1, false), (126, 0, 0, 1, false), (126, 1, 1, 1, false), (126, 2, 2, 1, false), (129, 0, 0, 1, false), (129, 1, 1, 1, false), (129, 2, 2, 1, false), (129, 3, 3, 1, false), (130, 0, 0, 1, false), (130, 1, 1, 1, false), (130, 2, 2, 1, false), (130, 3, 3, 1, false), (140, 0, 0, 1, false), (140, 1, 1, 1, false), (140, 2, 2, 1, false), (140, 3, 3, 1, false), (141, 0, 0, 1, false), (141, 1, 1, 1, false), (141, 2, 2, 1, false), (141, 3, 3, 1, false), (153, 0, 0, 1, false), (153, 1, 1, 1, false), (153, 2, 2, 1, false), (153, 3, 3, 1, false), (153, 4, 4, 1, false), (153, 5, 5, 1, false), (153, 6, 6, 1, false), (153, 7, 7, 1, false), (153, 8, 8, 1, false), (153, 9, 9, 1, false), (153, 10, 10, 1, false), (154, 0, 0, 1, false), (154, 1, 1, 1, false), (154, 2, 2, 1, false), (154, 3, 3, 1, false), (154, 4, 4, 1, false), (154, 5, 5, 1, false), (154, 6, 6, 1, false), (154, 7, 7, 1, false), (154, 8, 8, 1, false), (154, 9, 9, 1, false), (154, 10, 10, 1, false)]
  sls := [(22, 15), (26, 11), (32, 1), (47, 4), (58, 4), (79, 1), (94, 3), (101, 3), (116, 2), (123, 1)]
  arrs := [(72, 3, 3), (142, 0, 1)]
  kinds := [(1, false, 1), (2, false, 1), (3, false, 1), (4, false, 1), (5, false, 1), (6, false, 1), (7, true, 4), (8, true, 4), (9, false, 1), (10, false, 1), (11, false, 1), (12, false, 1), (13, true, 2), (14, true, 2), (15, false, 1), (16, false, 1), (17, false, 1), (18, true, 1), (19, true, 1), (21, false, 1), (22, false, 1), (23, false, 1), (24, false, 1), (25, false, 1), (26, false, 1), (27, true, 2), (28, true, 2), (30, false, 1), (31, false, 1), (32, false, 1), (33, true, 9), (34, true, 9), (36, false, 1), (37, true, 15), (38, true, 15), (39, false, 1), (40, false, 1), (41, false, 1), (43, false, 1), (44, false, 1), (45, false, 1), (46, false, 1), (47, false, 1), (48, false, 1), (49, true, 4), (50, true, 4), (52, false, 1), (53, false, 1), (54, false, 1), (55, false, 1), (56, false, 1), (57, false, 1), (58, false, 1), (59, false, 1), (60, false, 1), (61, false, 1), (62, false, 1), (64, false, 1), (65, false, 1), (67, false, 1), (68, true, 2), (69, true, 2), (70, true, 3), (71, true, 3), (72, true, 9), (73, true, 19), (74, true, 19), (75, false, 1), (76, false, 1), (77, false, 1), (78, false, 1), (79, false, 1), (81, false, 1), (82, true, 8), (83, true, 8), (84, false, 1), (85, true, 4), (86, true, 4), (87, false, 1), (88, false, 1), (89, false, 1), (90, false, 1), (91, false, 1), (92, false, 1), (93, false, 1), (94, false, 1), (95, false, 1), (97, false, 1), (99, false, 1), (100, false, 1), (101, false, 1), (102, true, 11), (103, true, 11), (104, false, 1), (105, false, 1), (106, false, 1), (107, false, 1), (108, false, 1), (109, false, 1), (110, false, 1), (111, false, 1), (112, false, 1), (113, false, 1), (114, true, 2), (115, false, 1), (116, false, 1), (118, false, 1), (119, false, 1), (120, false, 1), (121, false, 1), (122, false, 1), (123, false, 1), (124, false, 1), (125, true, 3), (126, true, 3), (127, false, 1), (128, false, 1), (129, true, 4), (130, true, 4), (132, false, 1), (133, false, 1), (134, false, 1), (135, false, 1), (136, false, 1), (137, false, 1), (138, false, 1), (139, false, 1), (140, true, 4), (141, true, 4), (142, true, 0), (143, true, 0), (144, true, 0), (145, false, 1), (146, false, 1), (147, false, 1), (148, false, 1), (149, false, 1), (150, false, 1), (151, false, 1), (152, false, 1), (153, true, 11), (154, true, 11)]
  strs := [9, 10, 11]
  ptrs := [15, 16, 17, 25, 65, 84, 150]
  ints := [(2, .i64), (3, .i64), (5, .u8), (6, .u8), (12, .u64), (21, .i32), (39, .i64), (146, .u32), (147, .u8), (148, .u8), (151, .i32), (152, .i32)]
  fns := [3, 4, 5, 6, 7, 8, 9, 10, 11, 12, 13, 14, 15, 16, 17, 18, 19, 20, 21, 22, 23, 24, 25, 26, 27, 28, 29, 30, 31, 32, 33, 34, 35, 36, 37, 38, 39, 40, 41, 42, 43, 44, 45, 46, 47, 48, 49, 50, 51, 52, 53, 54, 55, 56, 57, 58, 59, 60, 61, 62, 63, 64, 65, 66, 67, 68, 69, 70, 71, 72, 73, 74, 75, 76, 77, 78, 79, 80, 81, 82, 83, 84, 85, 86, 87, 88, 89, 90, 91, 92, 93]
theorem hT : TabOk Try.prog T := ⟨by kernel_rfl, by kernel_rfl, by kernel_rfl, by kernel_rfl, by kernel_rfl, by kernel_rfl, by kernel_rfl, by kernel_rfl⟩
theorem hM : Try.prog.follows .mixedOrders = true := by kernel_rfl

theorem z1 : (Try.prog.info? 1).bind (·.zero) = some (.nilFunc) := by kernel_rfl
theorem z7 : (Try.prog.info? 7).bind (·.zero) = some (.agg #[.int .i64 0, .int .i64 0, .bool false, .int .u8 0]) := by kernel_rfl
theorem bt7 : BuildT Try.prog 7 [.int .i64 0, .int .i64 0, .bool false, .int .u8 0] [(0, 1), (1, 1), (2, 1), (3, 1)] := buildT_of (fs := (Try.prog.underlying 7).elim #[] fun d => match d with | .struct fs => fs | _ => #[]) (by kernel_rfl) (by kernel_rfl) (by kernel_rfl) (by kernel_rfl)
theorem z8 : (Try.prog.info? 8).bind (·.zero) = some (.agg #[.int .i64 0, .int .i64 0, .bool false, .int .u8 0]) := by kernel_rfl
theorem bt8 : BuildT Try.prog 8 [.int .i64 0, .int .i64 0, .bool false, .int .u8 0] [(0, 1), (1, 1), (2, 1), (3, 1)] := buildT_of (fs := (Try.prog.underlying 8).elim #[] fun d => match d with | .struct fs => fs | _ => #[]) (by kernel_rfl) (by kernel_rfl) (by kernel_rfl) (by kernel_rfl)
theorem z13 : (Try.prog.info? 13).bind (·.zero) = some (.agg #[.string ⟨#[]⟩, .int .u64 0]) := by kernel_rfl
theorem bt13 : BuildT Try.prog 13 [.string ⟨#[]⟩, .int .u64 0] [(0, 1), (1, 1)] := buildT_of (fs := (Try.prog.underlying 13).elim #[] fun d => match d with | .struct fs => fs | _ => #[]) (by kernel_rfl) (by kernel_rfl) (by kernel_rfl) (by kernel_rfl)
theorem z14 : (Try.prog.info? 14).bind (·.zero) = some (.agg #[.string ⟨#[]⟩, .int .u64 0]) := by kernel_rfl
theorem bt14 : BuildT Try.prog 14 [.string ⟨#[]⟩, .int .u64 0] [(0, 1), (1, 1)] := buildT_of (fs := (Try.prog.underlying 14).elim #[] fun d => match d with | .struct fs => fs | _ => #[]) (by kernel_rfl) (by kernel_rfl) (by kernel_rfl) (by kernel_rfl)
theorem z15 : (Try.prog.info? 15).bind (·.zero) = some (.pointer none) := by kernel_rfl
theorem z16 : (Try.prog.info? 16).bind (·.zero) = some (.pointer none) := by kernel_rfl
theorem z17 : (Try.prog.info? 17).bind (·.zero) = some (.pointer none) := by kernel_rfl
theorem z18 : (Try.prog.info? 18).bind (·.zero) = some (.agg #[.pointer none]) := by kernel_rfl
theorem bt18 : BuildT Try.prog 18 [.pointer none] [(0, 1)] := buildT_of (fs := (Try.prog.underlying 18).elim #[] fun d => match d with | .struct fs => fs | _ => #[]) (by kernel_rfl) (by kernel_rfl) (by kernel_rfl) (by kernel_rfl)
theorem z19 : (Try.prog.info? 19).bind (·.zero) = some (.agg #[.pointer none]) := by kernel_rfl
theorem bt19 : BuildT Try.prog 19 [.pointer none] [(0, 1)] := buildT_of (fs := (Try.prog.underlying 19).elim #[] fun d => match d with | .struct fs => fs | _ => #[]) (by kernel_rfl) (by kernel_rfl) (by kernel_rfl) (by kernel_rfl)
theorem sl22 : SlT Try.prog 22 38 15 216 := slT_of (by kernel_rfl) (by kernel_rfl)
theorem z22 : (Try.prog.info? 22).bind (·.zero) = some (.slice none 0 0) := by kernel_rfl
theorem z23 : (Try.prog.info? 23).bind (·.zero) = some (.nilFunc) := by kernel_rfl
theorem z24 : (Try.prog.info? 24).bind (·.zero) = some (.nilFunc) := by kernel_rfl
theorem z25 : (Try.prog.info? 25).bind (·.zero) = some (.pointer none) := by kernel_rfl
theorem sl26 : SlT Try.prog 26 103 11 176 := slT_of (by kernel_rfl) (by kernel_rfl)
theorem z26 : (Try.prog.info? 26).bind (·.zero) = some (.slice none 0 0) := by kernel_rfl
theorem z27 : (Try.prog.info? 27).bind (·.zero) = some (.agg #[.string ⟨#[]⟩, .slice none 0 0]) := by kernel_rfl
theorem bt27 : BuildT Try.prog 27 [.string ⟨#[]⟩, .slice none 0 0] [(0, 1), (1, 1)] := buildT_of (fs := (Try.prog.underlying 27).elim #[] fun d => match d with | .struct fs => fs | _ => #[]) (by kernel_rfl) (by kernel_rfl) (by kernel_rfl) (by kernel_rfl)
theorem z28 : (Try.prog.info? 28).bind (·.zero) = some (.agg #[.string ⟨#[]⟩, .slice none 0 0]) := by kernel_rfl
theorem bt28 : BuildT Try.prog 28 [.string ⟨#[]⟩, .slice none 0 0] [(0, 1), (1, 1)] := buildT_of (fs := (Try.prog.underlying 28).elim #[] fun d => match d with | .struct fs => fs | _ => #[]) (by kernel_rfl) (by kernel_rfl) (by kernel_rfl) (by kernel_rfl)
theorem z30 : (Try.prog.info? 30).bind (·.zero) = some (.nilFunc) := by kernel_rfl
theorem z31 : (Try.prog.info? 31).bind (·.zero) = some (.nilFunc) := by kernel_rfl
theorem sl32 : SlT Try.prog 32 9 1 16 := slT_of (by kernel_rfl) (by kernel_rfl)
theorem z32 : (Try.prog.info? 32).bind (·.zero) = some (.slice none 0 0) := by kernel_rfl
theorem z33 : (Try.prog.info? 33).bind (·.zero) = some (.agg #[.string ⟨#[]⟩, .string ⟨#[]⟩, .string ⟨#[]⟩, .string ⟨#[]⟩, .string ⟨#[]⟩, .slice none 0 0, .slice none 0 0, .int .i64 0, .bool false]) := by kernel_rfl
theorem bt33 : BuildT Try.prog 33 [.string ⟨#[]⟩, .string ⟨#[]⟩, .string ⟨#[]⟩, .string ⟨#[]⟩, .string ⟨#[]⟩, .slice none 0 0, .slice none 0 0, .int .i64 0, .bool false] [(0, 1), (1, 1), (2, 1), (3, 1), (4, 1), (5, 1), (6, 1), (7, 1), (8, 1)] := buildT_of (fs := (Try.prog.underlying 33).elim #[] fun d => match d with | .struct fs => fs | _ => #[]) (by kernel_rfl) (by kernel_rfl) (by kernel_rfl) (by kernel_rfl)
theorem z34 : (Try.prog.info? 34).bind (·.zero) = some (.agg #[.string ⟨#[]⟩, .string ⟨#[]⟩, .string ⟨#[]⟩, .string ⟨#[]⟩, .string ⟨#[]⟩, .slice none 0 0, .slice none 0 0, .int .i64 0, .bool false]) := by kernel_rfl
theorem bt34 : BuildT Try.prog 34 [.string ⟨#[]⟩, .string ⟨#[]⟩, .string ⟨#[]⟩, .string ⟨#[]⟩, .string ⟨#[]⟩, .slice none 0 0, .slice none 0 0, .int .i64 0, .bool false] [(0, 1), (1, 1), (2, 1), (3, 1), (4, 1), (5, 1), (6, 1), (7, 1), (8, 1)] := buildT_of (fs := (Try.prog.underlying 34).elim #[] fun d => match d with | .struct fs => fs | _ => #[]) (by kernel_rfl) (by kernel_rfl) (by kernel_rfl) (by kernel_rfl)
theorem z36 : (Try.prog.info? 36).bind (·.zero) = some (.nilFunc) := by kernel_rfl
theorem z37 : (Try.prog.info? 37).bind (·.zero) = some (.agg #[.int .i64 0, .int .i64 0, .int .i64 0, .string ⟨#[]⟩, .string ⟨#[]⟩, .string ⟨#[]⟩, .string ⟨#[]⟩, .string ⟨#[]⟩, .string ⟨#[]⟩, .string ⟨#[]⟩, .string ⟨#[]⟩, .slice none 0 0, .slice none 0 0, .int .i64 0, .bool false]) := by kernel_rfl
theorem bt37 : BuildT Try.prog 37 [.int .i64 0, .int .i64 0, .int .i64 0, .string ⟨#[]⟩, .string ⟨#[]⟩, .string ⟨#[]⟩, .string ⟨#[]⟩, .string ⟨#[]⟩, .string ⟨#[]⟩, .string ⟨#[]⟩, .string ⟨#[]⟩, .slice none 0 0, .slice none 0 0, .int .i64 0, .bool false] [(0, 1), (1, 1), (2, 1), (3, 1), (4, 1), (5, 1), (6, 9)] := buildT_of (fs := (Try.prog.underlying 37).elim #[] fun d => match d with | .struct fs => fs | _ => #[]) (by kernel_rfl) (by kernel_rfl) (by kernel_rfl) (by kernel_rfl)
theorem z38 : (Try.prog.info? 38).bind (·.zero) = some (.agg #[.int .i64 0, .int .i64 0, .int .i64 0, .string ⟨#[]⟩, .string ⟨#[]⟩, .string ⟨#[]⟩, .string ⟨#[]⟩, .string ⟨#[]⟩, .string ⟨#[]⟩, .string ⟨#[]⟩, .string ⟨#[]⟩, .slice none 0 0, .slice none 0 0, .int .i64 0, .bool false]) := by kernel_rfl
theorem bt38 : BuildT Try.prog 38 [.int .i64 0, .int .i64 0, .int .i64 0, .string ⟨#[]⟩, .string ⟨#[]⟩, .string ⟨#[]⟩, .string ⟨#[]⟩, .string ⟨#[]⟩, .string ⟨#[]⟩, .string ⟨#[]⟩, .string ⟨#[]⟩, .slice none 0 0, .slice none 0 0, .int .i64 0, .bool false] [(0, 1), (1, 1), (2, 1), (3, 1), (4, 1), (5, 1), (6, 9)] := buildT_of (fs := (Try.prog.underlying 38).elim #[] fun d => match d with | .struct fs => fs | _ => #[]) (by kernel_rfl) (by kernel_rfl) (by kernel_rfl) (by kernel_rfl)
theorem z40 : (Try.prog.info? 40).bind (·.zero) = some (.nilFunc) := by kernel_rfl
theorem z41 : (Try.prog.info? 41).bind (·.zero) = some (.nilFunc) := by kernel_rfl
theorem z43 : (Try.prog.info? 43).bind (·.zero) = some (.nilFunc) := by kernel_rfl
theorem z44 : (Try.prog.info? 44).bind (·.zero) = some (.nilFunc) := by kernel_rfl
theorem z45 : (Try.prog.info? 45).bind (·.zero) = some (.nilFunc) := by kernel_rfl
theorem z46 : (Try.prog.info? 46).bind (·.zero) = some (.nilFunc) := by kernel_rfl
theorem sl47 : SlT Try.prog 47 50 4 48 := slT_of (by kernel_rfl) (by kernel_rfl)
theorem z47 : (Try.prog.info? 47).bind (·.zero) = some (.slice none 0 0) := by kernel_rfl
theorem z48 : (Try.prog.info? 48).bind (·.zero) = some (.nilFunc) := by kernel_rfl
theorem z49 : (Try.prog.info? 49).bind (·.zero) = some (.agg #[.string ⟨#[]⟩, .int .i64 0, .int .i64 0, .string ⟨#[]⟩]) := by kernel_rfl
theorem bt49 : BuildT Try.prog 49 [.string ⟨#[]⟩, .int .i64 0, .int .i64 0, .string ⟨#[]⟩] [(0, 1), (1, 1), (2, 1), (3, 1)] := buildT_of (fs := (Try.prog.underlying 49).elim #[] fun d => match d with | .struct fs => fs | _ => #[]) (by kernel_rfl) (by kernel_rfl) (by kernel_rfl) (by kernel_rfl)
theorem z50 : (Try.prog.info? 50).bind (·.zero) = some (.agg #[.string ⟨#[]⟩, .int .i64 0, .int .i64 0, .string ⟨#[]⟩]) := by kernel_rfl
theorem bt50 : BuildT Try.prog 50 [.string ⟨#[]⟩, .int .i64 0, .int .i64 0, .string ⟨#[]⟩] [(0, 1), (1, 1), (2, 1), (3, 1)] := buildT_of (fs := (Try.prog.underlying 50).elim #[] fun d => match d with | .struct fs => fs | _ => #[]) (by kernel_rfl) (by kernel_rfl) (by kernel_rfl) (by kernel_rfl)
theorem z52 : (Try.prog.info? 52).bind (·.zero) = some (.nilFunc) := by kernel_rfl
theorem z53 : (Try.prog.info? 53).bind (·.zero) = some (.nilFunc) := by kernel_rfl
theorem z54 : (Try.prog.info? 54).bind (·.zero) = some (.nilFunc) := by kernel_rfl
theorem z55 : (Try.prog.info? 55).bind (·.zero) = some (.nilFunc) := by kernel_rfl
theorem z56 : (Try.prog.info? 56).bind (·.zero) = some (.nilFunc) := by kernel_rfl
theorem z57 : (Try.prog.info? 57).bind (·.zero) = some (.nilFunc) := by kernel_rfl
theorem sl58 : SlT Try.prog 58 86 4 48 := slT_of (by kernel_rfl) (by kernel_rfl)
theorem z58 : (Try.prog.info? 58).bind (·.zero) = some (.slice none 0 0) := by kernel_rfl
theorem z59 : (Try.prog.info? 59).bind (·.zero) = some (.nilFunc) := by kernel_rfl
theorem z60 : (Try.prog.info? 60).bind (·.zero) = some (.nilFunc) := by kernel_rfl
theorem z61 : (Try.prog.info? 61).bind (·.zero) = some (.nilFunc) := by kernel_rfl
theorem z62 : (Try.prog.info? 62).bind (·.zero) = some (.nilFunc) := by kernel_rfl
theorem z64 : (Try.prog.info? 64).bind (·.zero) = some (.nilFunc) := by kernel_rfl
theorem z65 : (Try.prog.info? 65).bind (·.zero) = some (.pointer none) := by kernel_rfl
theorem mp67 : MpT Try.prog 67 65 (.pointer none) := ⟨9, by kernel_rfl, by kernel_rfl, by kernel_rfl⟩
theorem z68 : (Try.prog.info? 68).bind (·.zero) = some (.agg #[.string ⟨#[]⟩, .map none]) := by kernel_rfl
theorem bt68 : BuildT Try.prog 68 [.string ⟨#[]⟩, .map none] [(0, 1), (1, 1)] := buildT_of (fs := (Try.prog.underlying 68).elim #[] fun d => match d with | .struct fs => fs | _ => #[]) (by kernel_rfl) (by kernel_rfl) (by kernel_rfl) (by kernel_rfl)
theorem z69 : (Try.prog.info? 69).bind (·.zero) = some (.agg #[.string ⟨#[]⟩, .map none]) := by kernel_rfl
theorem bt69 : BuildT Try.prog 69 [.string ⟨#[]⟩, .map none] [(0, 1), (1, 1)] := buildT_of (fs := (Try.prog.underlying 69).elim #[] fun d => match d with | .struct fs => fs | _ => #[]) (by kernel_rfl) (by kernel_rfl) (by kernel_rfl) (by kernel_rfl)
theorem z70 : (Try.prog.info? 70).bind (·.zero) = some (.agg #[.int .i64 0, .string ⟨#[]⟩, .slice none 0 0]) := by kernel_rfl
theorem bt70 : BuildT Try.prog 70 [.int .i64 0, .string ⟨#[]⟩, .slice none 0 0] [(0, 1), (1, 1), (2, 1)] := buildT_of (fs := (Try.prog.underlying 70).elim #[] fun d => match d with | .struct fs => fs | _ => #[]) (by kernel_rfl) (by kernel_rfl) (by kernel_rfl) (by kernel_rfl)
theorem z71 : (Try.prog.info? 71).bind (·.zero) = some (.agg #[.int .i64 0, .string ⟨#[]⟩, .slice none 0 0]) := by kernel_rfl
theorem bt71 : BuildT Try.prog 71 [.int .i64 0, .string ⟨#[]⟩, .slice none 0 0] [(0, 1), (1, 1), (2, 1)] := buildT_of (fs := (Try.prog.underlying 71).elim #[] fun d => match d with | .struct fs => fs | _ => #[]) (by kernel_rfl) (by kernel_rfl) (by kernel_rfl) (by kernel_rfl)
theorem z72 : (Try.prog.info? 72).bind (·.zero) = some (.agg #[.int .i64 0, .string ⟨#[]⟩, .slice none 0 0, .int .i64 0, .string ⟨#[]⟩, .slice none 0 0, .int .i64 0, .string ⟨#[]⟩, .slice none 0 0]) := by kernel_rfl
theorem z73 : (Try.prog.info? 73).bind (·.zero) = some (.agg #[.string ⟨#[]⟩, .string ⟨#[]⟩, .string ⟨#[]⟩, .string ⟨#[]⟩, .string ⟨#[]⟩, .slice none 0 0, .slice none 0 0, .int .i64 0, .bool false, .int .i64 0, .int .i64 0, .string ⟨#[]⟩, .slice none 0 0, .int .i64 0, .string ⟨#[]⟩, .slice none 0 0, .int .i64 0, .string ⟨#[]⟩, .slice none 0 0]) := by kernel_rfl
theorem bt73 : BuildT Try.prog 73 [.string ⟨#[]⟩, .string ⟨#[]⟩, .string ⟨#[]⟩, .string ⟨#[]⟩, .string ⟨#[]⟩, .slice none 0 0, .slice none 0 0, .int .i64 0, .bool false, .int .i64 0, .int .i64 0, .string ⟨#[]⟩, .slice none 0 0, .int .i64 0, .string ⟨#[]⟩, .slice none 0 0, .int .i64 0, .string ⟨#[]⟩, .slice none 0 0] [(0, 9), (9, 1), (10, 9)] := buildT_of (fs := (Try.prog.underlying 73).elim #[] fun d => match d with | .struct fs => fs | _ => #[]) (by kernel_rfl) (by kernel_rfl) (by kernel_rfl) (by kernel_rfl)
theorem z74 : (Try.prog.info? 74).bind (·.zero) = some (.agg #[.string ⟨#[]⟩, .string ⟨#[]⟩, .string ⟨#[]⟩, .string ⟨#[]⟩, .string ⟨#[]⟩, .slice none 0 0, .slice none 0 0, .int .i64 0, .bool false, .int .i64 0, .int .i64 0, .string ⟨#[]⟩, .slice none 0 0, .int .i64 0, .string ⟨#[]⟩, .slice none 0 0, .int .i64 0, .string ⟨#[]⟩, .slice none 0 0]) := by kernel_rfl
theorem bt74 : BuildT Try.prog 74 [.string ⟨#[]⟩, .string ⟨#[]⟩, .string ⟨#[]⟩, .string ⟨#[]⟩, .string ⟨#[]⟩, .slice none 0 0, .slice none 0 0, .int .i64 0, .bool false, .int .i64 0, .int .i64 0, .string ⟨#[]⟩, .slice none 0 0, .int .i64 0, .string ⟨#[]⟩, .slice none 0 0, .int .i64 0, .string ⟨#[]⟩, .slice none 0 0] [(0, 9), (9, 1), (10, 9)] := buildT_of (fs := (Try.prog.underlying 74).elim #[] fun d => match d with | .struct fs => fs | _ => #[]) (by kernel_rfl) (by kernel_rfl) (by kernel_rfl) (by kernel_rfl)
theorem z75 : (Try.prog.info? 75).bind (·.zero) = some (.nilFunc) := by kernel_rfl
theorem z76 : (Try.prog.info? 76).bind (·.zero) = some (.nilFunc) := by kernel_rfl
theorem z77 : (Try.prog.info? 77).bind (·.zero) = some (.nilFunc) := by kernel_rfl
theorem z78 : (Try.prog.info? 78).bind (·.zero) = some (.nilFunc) := by kernel_rfl
theorem sl79 : SlT Try.prog 79 84 1 8 := slT_of (by kernel_rfl) (by kernel_rfl)
theorem z79 : (Try.prog.info? 79).bind (·.zero) = some (.slice none 0 0) := by kernel_rfl
theorem z81 : (Try.prog.info? 81).bind (·.zero) = some (.nilFunc) := by kernel_rfl
theorem z82 : (Try.prog.info? 82).bind (·.zero) = some (.agg #[.string ⟨#[]⟩, .string ⟨#[]⟩, .int .i64 0, .int .i64 0, .bool false, .int .i64 0, .string ⟨#[]⟩, .bool false]) := by kernel_rfl
theorem bt82 : BuildT Try.prog 82 [.string ⟨#[]⟩, .string ⟨#[]⟩, .int .i64 0, .int .i64 0, .bool false, .int .i64 0, .string ⟨#[]⟩, .bool false] [(0, 1), (1, 1), (2, 1), (3, 1), (4, 1), (5, 1), (6, 1), (7, 1)] := buildT_of (fs := (Try.prog.underlying 82).elim #[] fun d => match d with | .struct fs => fs | _ => #[]) (by kernel_rfl) (by kernel_rfl) (by kernel_rfl) (by kernel_rfl)
theorem z83 : (Try.prog.info? 83).bind (·.zero) = some (.agg #[.string ⟨#[]⟩, .string ⟨#[]⟩, .int .i64 0, .int .i64 0, .bool false, .int .i64 0, .string ⟨#[]⟩, .bool false]) := by kernel_rfl
theorem bt83 : BuildT Try.prog 83 [.string ⟨#[]⟩, .string ⟨#[]⟩, .int .i64 0, .int .i64 0, .bool false, .int .i64 0, .string ⟨#[]⟩, .bool false] [(0, 1), (1, 1), (2, 1), (3, 1), (4, 1), (5, 1), (6, 1), (7, 1)] := buildT_of (fs := (Try.prog.underlying 83).elim #[] fun d => match d with | .struct fs => fs | _ => #[]) (by kernel_rfl) (by kernel_rfl) (by kernel_rfl) (by kernel_rfl)
theorem z84 : (Try.prog.info? 84).bind (·.zero) = some (.pointer none) := by kernel_rfl
theorem z85 : (Try.prog.info? 85).bind (·.zero) = some (.agg #[.string ⟨#[]⟩, .string ⟨#[]⟩, .int .i64 0, .int .i64 0]) := by kernel_rfl
theorem bt85 : BuildT Try.prog 85 [.string ⟨#[]⟩, .string ⟨#[]⟩, .int .i64 0, .int .i64 0] [(0, 1), (1, 1), (2, 1), (3, 1)] := buildT_of (fs := (Try.prog.underlying 85).elim #[] fun d => match d with | .struct fs => fs | _ => #[]) (by kernel_rfl) (by kernel_rfl) (by kernel_rfl) (by kernel_rfl)
theorem z86 : (Try.prog.info? 86).bind (·.zero) = some (.agg #[.string ⟨#[]⟩, .string ⟨#[]⟩, .int .i64 0, .int .i64 0]) := by kernel_rfl
theorem bt86 : BuildT Try.prog 86 [.string ⟨#[]⟩, .string ⟨#[]⟩, .int .i64 0, .int .i64 0] [(0, 1), (1, 1), (2, 1), (3, 1)] := buildT_of (fs := (Try.prog.underlying 86).elim #[] fun d => match d with | .struct fs => fs | _ => #[]) (by kernel_rfl) (by kernel_rfl) (by kernel_rfl) (by kernel_rfl)
theorem z87 : (Try.prog.info? 87).bind (·.zero) = some (.nilFunc) := by kernel_rfl
theorem z88 : (Try.prog.info? 88).bind (·.zero) = some (.nilFunc) := by kernel_rfl
theorem z89 : (Try.prog.info? 89).bind (·.zero) = some (.nilFunc) := by kernel_rfl
theorem z90 : (Try.prog.info? 90).bind (·.zero) = some (.nilFunc) := by kernel_rfl
theorem z91 : (Try.prog.info? 91).bind (·.zero) = some (.nilFunc) := by kernel_rfl
theorem z92 : (Try.prog.info? 92).bind (·.zero) = some (.nilFunc) := by kernel_rfl
theorem z93 : (Try.prog.info? 93).bind (·.zero) = some (.nilFunc) := by kernel_rfl
theorem sl94 : SlT Try.prog 94 71 3 48 := slT_of (by kernel_rfl) (by kernel_rfl)
theorem z94 : (Try.prog.info? 94).bind (·.zero) = some (.slice none 0 0) := by kernel_rfl
theorem z95 : (Try.prog.info? 95).bind (·.zero) = some (.nilFunc) := by kernel_rfl
theorem z97 : (Try.prog.info? 97).bind (·.zero) = some (.nilFunc) := by kernel_rfl
theorem z99 : (Try.prog.info? 99).bind (·.zero) = some (.nilFunc) := by kernel_rfl
theorem z100 : (Try.prog.info? 100).bind (·.zero) = some (.nilFunc) := by kernel_rfl
theorem sl101 : SlT Try.prog 101 126 3 48 := slT_of (by kernel_rfl) (by kernel_rfl)
theorem z101 : (Try.prog.info? 101).bind (·.zero) = some (.slice none 0 0) := by kernel_rfl
theorem z102 : (Try.prog.info? 102).bind (·.zero) = some (.agg #[.string ⟨#[]⟩, .string ⟨#[]⟩, .string ⟨#[]⟩, .string ⟨#[]⟩, .string ⟨#[]⟩, .slice none 0 0, .slice none 0 0, .int .i64 0, .bool false, .int .i64 0, .slice none 0 0]) := by kernel_rfl
theorem bt102 : BuildT Try.prog 102 [.string ⟨#[]⟩, .string ⟨#[]⟩, .string ⟨#[]⟩, .string ⟨#[]⟩, .string ⟨#[]⟩, .slice none 0 0, .slice none 0 0, .int .i64 0, .bool false, .int .i64 0, .slice none 0 0] [(0, 9), (9, 1), (10, 1)] := buildT_of (fs := (Try.prog.underlying 102).elim #[] fun d => match d with | .struct fs => fs | _ => #[]) (by kernel_rfl) (by kernel_rfl) (by kernel_rfl) (by kernel_rfl)
theorem z103 : (Try.prog.info? 103).bind (·.zero) = some (.agg #[.string ⟨#[]⟩, .string ⟨#[]⟩, .string ⟨#[]⟩, .string ⟨#[]⟩, .string ⟨#[]⟩, .slice none 0 0, .slice none 0 0, .int .i64 0, .bool false, .int .i64 0, .slice none 0 0]) := by kernel_rfl
theorem bt103 : BuildT Try.prog 103 [.string ⟨#[]⟩, .string ⟨#[]⟩, .string ⟨#[]⟩, .string ⟨#[]⟩, .string ⟨#[]⟩, .slice none 0 0, .slice none 0 0, .int .i64 0, .bool false, .int .i64 0, .slice none 0 0] [(0, 9), (9, 1), (10, 1)] := buildT_of (fs := (Try.prog.underlying 103).elim #[] fun d => match d with | .struct fs => fs | _ => #[]) (by kernel_rfl) (by kernel_rfl) (by kernel_rfl) (by kernel_rfl)
theorem z104 : (Try.prog.info? 104).bind (·.zero) = some (.nilFunc) := by kernel_rfl
theorem z105 : (Try.prog.info? 105).bind (·.zero) = some (.nilFunc) := by kernel_rfl
theorem z106 : (Try.prog.info? 106).bind (·.zero) = some (.nilFunc) := by kernel_rfl
theorem z107 : (Try.prog.info? 107).bind (·.zero) = some (.nilFunc) := by kernel_rfl
theorem z108 : (Try.prog.info? 108).bind (·.zero) = some (.nilFunc) := by kernel_rfl
theorem z109 : (Try.prog.info? 109).bind (·.zero) = some (.nilFunc) := by kernel_rfl
theorem z110 : (Try.prog.info? 110).bind (·.zero) = some (.nilFunc) := by kernel_rfl
theorem z111 : (Try.prog.info? 111).bind (·.zero) = some (.nilFunc) := by kernel_rfl
theorem z112 : (Try.prog.info? 112).bind (·.zero) = some (.nilFunc) := by kernel_rfl
theorem z113 : (Try.prog.info? 113).bind (·.zero) = some (.nilFunc) := by kernel_rfl
theorem z114 : (Try.prog.info? 114).bind (·.zero) = some (.agg #[.nilFunc, .int .i64 0]) := by kernel_rfl
theorem bt114 : BuildT Try.prog 114 [.nilFunc, .int .i64 0] [(0, 1), (1, 1)] := buildT_of (fs := (Try.prog.underlying 114).elim #[] fun d => match d with | .struct fs => fs | _ => #[]) (by kernel_rfl) (by kernel_rfl) (by kernel_rfl) (by kernel_rfl)
theorem z115 : (Try.prog.info? 115).bind (·.zero) = some (.nilFunc) := by kernel_rfl
theorem sl116 : SlT Try.prog 116 114 2 16 := slT_of (by kernel_rfl) (by kernel_rfl)
theorem z116 : (Try.prog.info? 116).bind (·.zero) = some (.slice none 0 0) := by kernel_rfl
theorem z118 : (Try.prog.info? 118).bind (·.zero) = some (.nilFunc) := by kernel_rfl
theorem z119 : (Try.prog.info? 119).bind (·.zero) = some (.nilFunc) := by kernel_rfl
theorem z120 : (Try.prog.info? 120).bind (·.zero) = some (.nilFunc) := by kernel_rfl
theorem z121 : (Try.prog.info? 121).bind (·.zero) = some (.nilFunc) := by kernel_rfl
theorem z122 : (Try.prog.info? 122).bind (·.zero) = some (.nilFunc) := by kernel_rfl
theorem sl123 : SlT Try.prog 123 3 1 8 := slT_of (by kernel_rfl) (by kernel_rfl)
theorem z123 : (Try.prog.info? 123).bind (·.zero) = some (.slice none 0 0) := by kernel_rfl
theorem z124 : (Try.prog.info? 124).bind (·.zero) = some (.nilFunc) := by kernel_rfl
theorem z125 : (Try.prog.info? 125).bind (·.zero) = some (.agg #[.int .i64 0, .string ⟨#[]⟩, .slice none 0 0]) := by kernel_rfl
theorem bt125 : BuildT Try.prog 125 [.int .i64 0, .string ⟨#[]⟩, .slice none 0 0] [(0, 1), (1, 1), (2, 1)] := buildT_of (fs := (Try.prog.underlying 125).elim #[] fun d => match d with | .struct fs => fs | _ => #[]) (by kernel_rfl) (by kernel_rfl) (by kernel_rfl) (by kernel_rfl)
theorem z126 : (Try.prog.info? 126).bind (·.zero) = some (.agg #[.int .i64 0, .string ⟨#[]⟩, .slice none 0 0]) := by kernel_rfl
theorem bt126 : BuildT Try.prog 126 [.int .i64 0, .string ⟨#[]⟩, .slice none 0 0] [(0, 1), (1, 1), (2, 1)] := buildT_of (fs := (Try.prog.underlying 126).elim #[] fun d => match d with | .struct fs => fs | _ => #[]) (by kernel_rfl) (by kernel_rfl) (by kernel_rfl) (by kernel_rfl)
theorem mp127 : MpT Try.prog 127 4 (.bool false) := ⟨9, by kernel_rfl, by kernel_rfl, by kernel_rfl⟩
theorem z128 : (Try.prog.info? 128).bind (·.zero) = some (.nilFunc) := by kernel_rfl
theorem z129 : (Try.prog.info? 129).bind (·.zero) = some (.agg #[.string ⟨#[]⟩, .bool false, .bool false, .int .i64 0]) := by kernel_rfl
theorem bt129 : BuildT Try.prog 129 [.string ⟨#[]⟩, .bool false, .bool false, .int .i64 0] [(0, 1), (1, 1), (2, 1), (3, 1)] := buildT_of (fs := (Try.prog.underlying 129).elim #[] fun d => match d with | .struct fs => fs | _ => #[]) (by kernel_rfl) (by kernel_rfl) (by kernel_rfl) (by kernel_rfl)
theorem z130 : (Try.prog.info? 130).bind (·.zero) = some (.agg #[.string ⟨#[]⟩, .bool false, .bool false, .int .i64 0]) := by kernel_rfl
theorem bt130 : BuildT Try.prog 130 [.string ⟨#[]⟩, .bool false, .bool false, .int .i64 0] [(0, 1), (1, 1), (2, 1), (3, 1)] := buildT_of (fs := (Try.prog.underlying 130).elim #[] fun d => match d with | .struct fs => fs | _ => #[]) (by kernel_rfl) (by kernel_rfl) (by kernel_rfl) (by kernel_rfl)
theorem z132 : (Try.prog.info? 132).bind (·.zero) = some (.nilFunc) := by kernel_rfl
theorem z133 : (Try.prog.info? 133).bind (·.zero) = some (.nilFunc) := by kernel_rfl
theorem z134 : (Try.prog.info? 134).bind (·.zero) = some (.nilFunc) := by kernel_rfl
theorem z135 : (Try.prog.info? 135).bind (·.zero) = some (.nilFunc) := by kernel_rfl
theorem z136 : (Try.prog.info? 136).bind (·.zero) = some (.nilFunc) := by kernel_rfl
theorem z137 : (Try.prog.info? 137).bind (·.zero) = some (.nilFunc) := by kernel_rfl
theorem z138 : (Try.prog.info? 138).bind (·.zero) = some (.nilFunc) := by kernel_rfl
theorem z139 : (Try.prog.info? 139).bind (·.zero) = some (.nilFunc) := by kernel_rfl
theorem z140 : (Try.prog.info? 140).bind (·.zero) = some (.agg #[.pointer none, .pointer none, .pointer none, .string ⟨#[]⟩]) := by kernel_rfl
theorem bt140 : BuildT Try.prog 140 [.pointer none, .pointer none, .pointer none, .string ⟨#[]⟩] [(0, 1), (1, 1), (2, 1), (3, 1)] := buildT_of (fs := (Try.prog.underlying 140).elim #[] fun d => match d with | .struct fs => fs | _ => #[]) (by kernel_rfl) (by kernel_rfl) (by kernel_rfl) (by kernel_rfl)
theorem z141 : (Try.prog.info? 141).bind (·.zero) = some (.agg #[.pointer none, .pointer none, .pointer none, .string ⟨#[]⟩]) := by kernel_rfl
theorem bt141 : BuildT Try.prog 141 [.pointer none, .pointer none, .pointer none, .string ⟨#[]⟩] [(0, 1), (1, 1), (2, 1), (3, 1)] := buildT_of (fs := (Try.prog.underlying 141).elim #[] fun d => match d with | .struct fs => fs | _ => #[]) (by kernel_rfl) (by kernel_rfl) (by kernel_rfl) (by kernel_rfl)
theorem z142 : (Try.prog.info? 142).bind (·.zero) = some (.agg #[]) := by kernel_rfl
theorem z143 : (Try.prog.info? 143).bind (·.zero) = some (.agg #[]) := by kernel_rfl
theorem z144 : (Try.prog.info? 144).bind (·.zero) = some (.agg #[]) := by kernel_rfl
theorem z145 : (Try.prog.info? 145).bind (·.zero) = some (.nilFunc) := by kernel_rfl
theorem z149 : (Try.prog.info? 149).bind (·.zero) = some (.nilFunc) := by kernel_rfl
theorem z150 : (Try.prog.info? 150).bind (·.zero) = some (.pointer none) := by kernel_rfl
theorem z153 : (Try.prog.info? 153).bind (·.zero) = some (.agg #[.int .u64 0, .int .u64 0, .int .u32 0, .int .u8 0, .int .u8 0, .int .u8 0, .int .u8 0, .nilFunc, .pointer none, .int .i32 0, .int .i32 0]) := by kernel_rfl
theorem bt153 : BuildT Try.prog 153 [.int .u64 0, .int .u64 0, .int .u32 0, .int .u8 0, .int .u8 0, .int .u8 0, .int .u8 0, .nilFunc, .pointer none, .int .i32 0, .int .i32 0] [(0, 1), (1, 1), (2, 1), (3, 1), (4, 1), (5, 1), (6, 1), (7, 1), (8, 1), (9, 1), (10, 1)] := buildT_of (fs := (Try.prog.underlying 153).elim #[] fun d => match d with | .struct fs => fs | _ => #[]) (by kernel_rfl) (by kernel_rfl) (by kernel_rfl) (by kernel_rfl)
theorem z154 : (Try.prog.info? 154).bind (·.zero) = some (.agg #[.int .u64 0, .int .u64 0, .int .u32 0, .int .u8 0, .int .u8 0, .int .u8 0, .int .u8 0, .nilFunc, .pointer none, .int .i32 0, .int .i32 0]) := by kernel_rfl
theorem bt154 : BuildT Try.prog 154 [.int .u64 0, .int .u64 0, .int .u32 0, .int .u8 0, .int .u8 0, .int .u8 0, .int .u8 0, .nilFunc, .pointer none, .int .i32 0, .int .i32 0] [(0, 1), (1, 1), (2, 1), (3, 1), (4, 1), (5, 1), (6, 1), (7, 1), (8, 1), (9, 1), (10, 1)] := buildT_of (fs := (Try.prog.underlying 154).elim #[] fun d => match d with | .struct fs => fs | _ => #[]) (by kernel_rfl) (by kernel_rfl) (by kernel_rfl) (by kernel_rfl)
end Go.Proofs.Ytfbjpfgglgffgaa
