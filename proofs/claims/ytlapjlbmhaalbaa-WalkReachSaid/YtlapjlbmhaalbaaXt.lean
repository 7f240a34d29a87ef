/- The program's types as a table, each row proved against the loaded program. Printed by a program. -/
import Derived.Test.YtlapjlbmhaalbaaXm3
import Derived.Test.YtlapjlbmhaalbaaProg
namespace Go.Proofs.Ytlapjlbmhaalbaa.X
open Go Go.RowKit

def TT : Tab := [
  (1, ⟨1, false, 8, true, .other, [(.raw .nilFunc)]⟩),
  (2, ⟨1, false, 8, true, (.int .i64), [(.int .i64 0)]⟩),
  (3, ⟨1, false, 8, true, (.int .i64), [(.int .i64 0)]⟩),
  (4, ⟨1, false, 1, true, .bool, [(.bool false)]⟩),
  (5, ⟨1, false, 1, true, (.int .u8), [(.int .u8 0)]⟩),
  (6, ⟨1, false, 1, true, (.int .u8), [(.int .u8 0)]⟩),
  (7, ⟨4, true, 24, true, (.struct [(0, 2), (1, 3), (2, 4), (3, 6)]), [(.int .i64 0), (.int .i64 0), (.bool false), (.int .u8 0)]⟩),
  (8, ⟨4, true, 24, true, (.struct [(0, 2), (1, 3), (2, 4), (3, 6)]), [(.int .i64 0), (.int .i64 0), (.bool false), (.int .u8 0)]⟩),
  (12, ⟨1, false, 8, true, (.int .u64), [(.int .u64 0)]⟩),
  (16, ⟨1, false, 8, true, .other, [(.raw (.pointer none))]⟩),
  (17, ⟨1, false, 8, true, .other, [(.raw (.pointer none))]⟩),
  (18, ⟨1, true, 8, false, (.struct [(0, 17)]), [(.raw (.pointer none))]⟩),
  (19, ⟨1, true, 8, false, (.struct [(0, 17)]), [(.raw (.pointer none))]⟩),
  (21, ⟨1, false, 4, true, (.int .i32), [(.int .i32 0)]⟩),
  (22, ⟨1, false, 24, true, (.slice 35), [.nils]⟩),
  (23, ⟨2, true, 48, true, (.arr 2 22), [.nils, .nils]⟩),
  (24, ⟨3, true, 56, true, (.struct [(0, 3), (1, 23)]), [(.int .i64 0), .nils, .nils]⟩),
  (25, ⟨3, true, 56, true, (.struct [(0, 3), (1, 23)]), [(.int .i64 0), .nils, .nils]⟩),
  (26, ⟨6, true, 80, true, (.struct [(0, 25), (3, 3), (4, 3), (5, 3)]), [(.int .i64 0), .nils, .nils, (.int .i64 0), (.int .i64 0), (.int .i64 0)]⟩),
  (27, ⟨6, true, 80, true, (.struct [(0, 25), (3, 3), (4, 3), (5, 3)]), [(.int .i64 0), .nils, .nils, (.int .i64 0), (.int .i64 0), (.int .i64 0)]⟩),
  (28, ⟨1, false, 8, true, .other, [(.raw .nilFunc)]⟩),
  (29, ⟨1, false, 8, true, .other, [(.raw .nilFunc)]⟩),
  (30, ⟨1, false, 8, true, .other, [(.raw .nilFunc)]⟩),
  (31, ⟨1, false, 8, true, (.int .i64), [(.int .i64 0)]⟩),
  (33, ⟨1, false, 8, true, .other, [(.raw .nilFunc)]⟩),
  (34, ⟨1, false, 8, true, .other, [(.raw .nilFunc)]⟩),
  (35, ⟨1, false, 8, true, (.int .u64), [(.int .u64 0)]⟩),
  (36, ⟨1, false, 8, true, .other, [(.raw .nilFunc)]⟩),
  (37, ⟨1, false, 8, true, .other, [(.raw .nilFunc)]⟩),
  (38, ⟨1, false, 8, true, .other, [(.raw .nilFunc)]⟩),
  (39, ⟨1, false, 8, true, .other, [(.raw .nilFunc)]⟩),
  (40, ⟨1, false, 8, true, .other, [(.raw .nilFunc)]⟩),
  (41, ⟨1, false, 8, true, .other, [(.raw .nilFunc)]⟩),
  (42, ⟨1, false, 8, true, .other, [(.raw .nilFunc)]⟩),
  (43, ⟨6, true, 80, true, (.struct [(0, 25), (3, 3), (4, 3), (5, 3)]), [(.int .i64 0), .nils, .nils, (.int .i64 0), (.int .i64 0), (.int .i64 0)]⟩),
  (44, ⟨6, true, 80, true, (.struct [(0, 25), (3, 3), (4, 3), (5, 3)]), [(.int .i64 0), .nils, .nils, (.int .i64 0), (.int .i64 0), (.int .i64 0)]⟩),
  (45, ⟨1, false, 8, true, .other, [(.raw .nilFunc)]⟩),
  (47, ⟨1, false, 8, true, .other, [(.raw .nilFunc)]⟩),
  (48, ⟨3, true, 24, true, (.struct [(0, 3), (1, 3), (2, 35)]), [(.int .i64 0), (.int .i64 0), (.int .u64 0)]⟩),
  (49, ⟨3, true, 24, true, (.struct [(0, 3), (1, 3), (2, 35)]), [(.int .i64 0), (.int .i64 0), (.int .u64 0)]⟩),
  (50, ⟨1, false, 8, true, .other, [(.raw .nilFunc)]⟩),
  (51, ⟨1, false, 8, true, (.map 35 4), [(.raw (.map none))]⟩),
  (52, ⟨1, false, 8, true, .other, [(.raw .nilFunc)]⟩),
  (53, ⟨1, false, 8, true, .other, [(.raw .nilFunc)]⟩),
  (54, ⟨1, false, 8, true, .other, [(.raw .nilFunc)]⟩),
  (55, ⟨1, false, 8, true, .other, [(.raw .nilFunc)]⟩),
  (56, ⟨1, false, 8, true, .other, [(.raw .nilFunc)]⟩),
  (58, ⟨1, false, 8, true, .other, [(.raw .nilFunc)]⟩),
  (59, ⟨1, false, 24, true, (.slice 3), [.nils]⟩),
  (60, ⟨1, false, 8, true, .other, [(.raw .nilFunc)]⟩),
  (62, ⟨1, false, 8, true, .other, [(.raw .nilFunc)]⟩),
  (63, ⟨1, false, 8, true, .other, [(.raw .nilFunc)]⟩),
  (65, ⟨1, false, 8, true, .other, [(.raw .nilFunc)]⟩),
  (67, ⟨1, false, 8, true, .other, [(.raw .nilFunc)]⟩),
  (68, ⟨1, false, 8, true, .other, [(.raw .nilFunc)]⟩),
  (69, ⟨1, false, 8, true, .other, [(.raw .nilFunc)]⟩),
  (70, ⟨1, false, 8, true, .other, [(.raw .nilFunc)]⟩),
  (71, ⟨1, false, 8, true, .other, [(.raw .nilFunc)]⟩),
  (73, ⟨1, false, 8, true, .other, [(.raw .nilFunc)]⟩),
  (74, ⟨1, false, 8, true, .other, [(.raw .nilFunc)]⟩),
  (75, ⟨1, false, 8, true, .other, [(.raw .nilFunc)]⟩),
  (76, ⟨1, false, 8, true, .other, [(.raw .nilFunc)]⟩),
  (77, ⟨1, false, 8, true, .other, [(.raw .nilFunc)]⟩),
  (79, ⟨1, false, 8, true, .other, [(.raw .nilFunc)]⟩),
  (80, ⟨1, false, 8, true, .other, [(.raw .nilFunc)]⟩),
  (81, ⟨1, false, 8, true, .other, [(.raw .nilFunc)]⟩),
  (82, ⟨1, false, 24, true, (.slice 80), [.nils]⟩),
  (84, ⟨1, false, 8, true, .other, [(.raw .nilFunc)]⟩),
  (85, ⟨1, false, 8, true, (.int .u64), [(.int .u64 0)]⟩),
  (87, ⟨1, false, 8, true, .other, [(.raw .nilFunc)]⟩),
  (88, ⟨1, false, 8, true, .other, [(.raw .nilFunc)]⟩),
  (89, ⟨1, false, 8, true, .other, [(.raw .nilFunc)]⟩),
  (90, ⟨1, false, 8, true, .other, [(.raw .nilFunc)]⟩),
  (91, ⟨1, false, 8, true, .other, [(.raw .nilFunc)]⟩),
  (92, ⟨1, false, 8, true, .other, [(.raw .nilFunc)]⟩),
  (93, ⟨3, true, 56, true, (.struct [(0, 25)]), [(.int .i64 0), .nils, .nils]⟩),
  (94, ⟨3, true, 56, true, (.struct [(0, 25)]), [(.int .i64 0), .nils, .nils]⟩),
  (95, ⟨1, false, 8, true, .other, [(.raw .nilFunc)]⟩),
  (96, ⟨1, false, 8, true, .other, [(.raw .nilFunc)]⟩),
  (97, ⟨1, false, 8, true, .other, [(.raw .nilFunc)]⟩),
  (98, ⟨1, false, 8, true, .other, [(.raw .nilFunc)]⟩),
  (99, ⟨1, false, 8, true, .other, [(.raw .nilFunc)]⟩),
  (100, ⟨2, true, 16, true, (.struct [(0, 3), (1, 3)]), [(.int .i64 0), (.int .i64 0)]⟩),
  (101, ⟨2, true, 16, true, (.struct [(0, 3), (1, 3)]), [(.int .i64 0), (.int .i64 0)]⟩),
  (103, ⟨1, false, 8, true, .other, [(.raw .nilFunc)]⟩),
  (104, ⟨1, false, 8, true, .other, [(.raw .nilFunc)]⟩),
  (107, ⟨0, true, 0, true, (.arr 0 16), []⟩),
  (108, ⟨0, true, 0, false, (.struct [(0, 107)]), []⟩),
  (109, ⟨0, true, 0, false, (.struct [(0, 107)]), []⟩),
  (110, ⟨1, false, 4, true, (.int .u32), [(.int .u32 0)]⟩),
  (111, ⟨1, false, 1, true, (.int .u8), [(.int .u8 0)]⟩),
  (112, ⟨1, false, 1, true, (.int .u8), [(.int .u8 0)]⟩),
  (113, ⟨1, false, 8, true, .other, [(.raw .nilFunc)]⟩),
  (114, ⟨1, false, 8, true, .other, [(.raw (.pointer none))]⟩),
  (115, ⟨1, false, 4, true, (.int .i32), [(.int .i32 0)]⟩),
  (116, ⟨1, false, 4, true, (.int .i32), [(.int .i32 0)]⟩),
  (117, ⟨11, true, 48, false, (.struct [(0, 12), (1, 12), (2, 110), (3, 111), (4, 5), (5, 5), (6, 112), (7, 113), (8, 114), (9, 115), (10, 116)]), [(.int .u64 0), (.int .u64 0), (.int .u32 0), (.int .u8 0), (.int .u8 0), (.int .u8 0), (.int .u8 0), (.raw .nilFunc), (.raw (.pointer none)), (.int .i32 0), (.int .i32 0)]⟩),
  (118, ⟨11, true, 48, false, (.struct [(0, 12), (1, 12), (2, 110), (3, 111), (4, 5), (5, 5), (6, 112), (7, 113), (8, 114), (9, 115), (10, 116)]), [(.int .u64 0), (.int .u64 0), (.int .u32 0), (.int .u8 0), (.int .u8 0), (.int .u8 0), (.int .u8 0), (.raw .nilFunc), (.raw (.pointer none)), (.int .i32 0), (.int .i32 0)]⟩)]
theorem d_int {P : Program} {t : Nat} {k : IntKind} (h : P.underlying t = some (.int k)) : DescOk P t (.int k) := h
theorem d_bool {P : Program} {t : Nat} (h : P.underlying t = some .bool) : DescOk P t .bool := h
theorem d_struct {P : Program} {t : Nat} {fs : List (Nat × Nat)} (h : (P.underlying t).bind structFs = some fs) : DescOk P t (.struct fs) := h
theorem d_arr {P : Program} {t n e : Nat} (h : P.underlying t = some (.array n e)) : DescOk P t (.arr n e) := h
theorem d_map {P : Program} {t k e : Nat} (h : P.underlying t = some (.map k e)) : DescOk P t (.map k e) := h
theorem d_slice {P : Program} {t e : Nat} (h : P.underlying t = some (.slice e)) : DescOk P t (.slice e) := h
theorem TT_ok : TabOk Try.prog TT := by
  unfold TT
  refine tabOk_cons ⟨by kernel_rfl, by kernel_rfl, by kernel_rfl, by kernel_rfl, trivial, (fun _ => ⟨by kernel_rfl, by kernel_rfl, by kernel_rfl⟩), (fun _ => by kernel_rfl)⟩ ?_
  refine tabOk_cons ⟨by kernel_rfl, by kernel_rfl, by kernel_rfl, by kernel_rfl, d_int (by kernel_rfl), (fun _ => ⟨by kernel_rfl, by kernel_rfl, by kernel_rfl⟩), (fun _ => by kernel_rfl)⟩ ?_
  refine tabOk_cons ⟨by kernel_rfl, by kernel_rfl, by kernel_rfl, by kernel_rfl, d_int (by kernel_rfl), (fun _ => ⟨by kernel_rfl, by kernel_rfl, by kernel_rfl⟩), (fun _ => by kernel_rfl)⟩ ?_
  refine tabOk_cons ⟨by kernel_rfl, by kernel_rfl, by kernel_rfl, by kernel_rfl, d_bool (by kernel_rfl), (fun _ => ⟨by kernel_rfl, by kernel_rfl, by kernel_rfl⟩), (fun _ => by kernel_rfl)⟩ ?_
  refine tabOk_cons ⟨by kernel_rfl, by kernel_rfl, by kernel_rfl, by kernel_rfl, d_int (by kernel_rfl), (fun _ => ⟨by kernel_rfl, by kernel_rfl, by kernel_rfl⟩), (fun _ => by kernel_rfl)⟩ ?_
  refine tabOk_cons ⟨by kernel_rfl, by kernel_rfl, by kernel_rfl, by kernel_rfl, d_int (by kernel_rfl), (fun _ => ⟨by kernel_rfl, by kernel_rfl, by kernel_rfl⟩), (fun _ => by kernel_rfl)⟩ ?_
  refine tabOk_cons ⟨by kernel_rfl, by kernel_rfl, by kernel_rfl, by kernel_rfl, d_struct (by kernel_rfl), (fun _ => ⟨by kernel_rfl, by kernel_rfl, by kernel_rfl⟩), (fun h => by cases h)⟩ ?_
  refine tabOk_cons ⟨by kernel_rfl, by kernel_rfl, by kernel_rfl, by kernel_rfl, d_struct (by kernel_rfl), (fun _ => ⟨by kernel_rfl, by kernel_rfl, by kernel_rfl⟩), (fun h => by cases h)⟩ ?_
  refine tabOk_cons ⟨by kernel_rfl, by kernel_rfl, by kernel_rfl, by kernel_rfl, d_int (by kernel_rfl), (fun _ => ⟨by kernel_rfl, by kernel_rfl, by kernel_rfl⟩), (fun _ => by kernel_rfl)⟩ ?_
  refine tabOk_cons ⟨by kernel_rfl, by kernel_rfl, by kernel_rfl, by kernel_rfl, trivial, (fun _ => ⟨by kernel_rfl, by kernel_rfl, by kernel_rfl⟩), (fun _ => by kernel_rfl)⟩ ?_
  refine tabOk_cons ⟨by kernel_rfl, by kernel_rfl, by kernel_rfl, by kernel_rfl, trivial, (fun _ => ⟨by kernel_rfl, by kernel_rfl, by kernel_rfl⟩), (fun _ => by kernel_rfl)⟩ ?_
  refine tabOk_cons ⟨by kernel_rfl, by kernel_rfl, by kernel_rfl, by kernel_rfl, d_struct (by kernel_rfl), (fun h => by cases h), (fun h => by cases h)⟩ ?_
  refine tabOk_cons ⟨by kernel_rfl, by kernel_rfl, by kernel_rfl, by kernel_rfl, d_struct (by kernel_rfl), (fun h => by cases h), (fun h => by cases h)⟩ ?_
  refine tabOk_cons ⟨by kernel_rfl, by kernel_rfl, by kernel_rfl, by kernel_rfl, d_int (by kernel_rfl), (fun _ => ⟨by kernel_rfl, by kernel_rfl, by kernel_rfl⟩), (fun _ => by kernel_rfl)⟩ ?_
  refine tabOk_cons ⟨by kernel_rfl, by kernel_rfl, by kernel_rfl, by kernel_rfl, d_slice (by kernel_rfl), (fun _ => ⟨by kernel_rfl, by kernel_rfl, by kernel_rfl⟩), (fun _ => by kernel_rfl)⟩ ?_
  refine tabOk_cons ⟨by kernel_rfl, by kernel_rfl, by kernel_rfl, by kernel_rfl, d_arr (by kernel_rfl), (fun _ => ⟨by kernel_rfl, by kernel_rfl, by kernel_rfl⟩), (fun h => by cases h)⟩ ?_
  refine tabOk_cons ⟨by kernel_rfl, by kernel_rfl, by kernel_rfl, by kernel_rfl, d_struct (by kernel_rfl), (fun _ => ⟨by kernel_rfl, by kernel_rfl, by kernel_rfl⟩), (fun h => by cases h)⟩ ?_
  refine tabOk_cons ⟨by kernel_rfl, by kernel_rfl, by kernel_rfl, by kernel_rfl, d_struct (by kernel_rfl), (fun _ => ⟨by kernel_rfl, by kernel_rfl, by kernel_rfl⟩), (fun h => by cases h)⟩ ?_
  refine tabOk_cons ⟨by kernel_rfl, by kernel_rfl, by kernel_rfl, by kernel_rfl, d_struct (by kernel_rfl), (fun _ => ⟨by kernel_rfl, by kernel_rfl, by kernel_rfl⟩), (fun h => by cases h)⟩ ?_
  refine tabOk_cons ⟨by kernel_rfl, by kernel_rfl, by kernel_rfl, by kernel_rfl, d_struct (by kernel_rfl), (fun _ => ⟨by kernel_rfl, by kernel_rfl, by kernel_rfl⟩), (fun h => by cases h)⟩ ?_
  refine tabOk_cons ⟨by kernel_rfl, by kernel_rfl, by kernel_rfl, by kernel_rfl, trivial, (fun _ => ⟨by kernel_rfl, by kernel_rfl, by kernel_rfl⟩), (fun _ => by kernel_rfl)⟩ ?_
  refine tabOk_cons ⟨by kernel_rfl, by kernel_rfl, by kernel_rfl, by kernel_rfl, trivial, (fun _ => ⟨by kernel_rfl, by kernel_rfl, by kernel_rfl⟩), (fun _ => by kernel_rfl)⟩ ?_
  refine tabOk_cons ⟨by kernel_rfl, by kernel_rfl, by kernel_rfl, by kernel_rfl, trivial, (fun _ => ⟨by kernel_rfl, by kernel_rfl, by kernel_rfl⟩), (fun _ => by kernel_rfl)⟩ ?_
  refine tabOk_cons ⟨by kernel_rfl, by kernel_rfl, by kernel_rfl, by kernel_rfl, d_int (by kernel_rfl), (fun _ => ⟨by kernel_rfl, by kernel_rfl, by kernel_rfl⟩), (fun _ => by kernel_rfl)⟩ ?_
  refine tabOk_cons ⟨by kernel_rfl, by kernel_rfl, by kernel_rfl, by kernel_rfl, trivial, (fun _ => ⟨by kernel_rfl, by kernel_rfl, by kernel_rfl⟩), (fun _ => by kernel_rfl)⟩ ?_
  refine tabOk_cons ⟨by kernel_rfl, by kernel_rfl, by kernel_rfl, by kernel_rfl, trivial, (fun _ => ⟨by kernel_rfl, by kernel_rfl, by kernel_rfl⟩), (fun _ => by kernel_rfl)⟩ ?_
  refine tabOk_cons ⟨by kernel_rfl, by kernel_rfl, by kernel_rfl, by kernel_rfl, d_int (by kernel_rfl), (fun _ => ⟨by kernel_rfl, by kernel_rfl, by kernel_rfl⟩), (fun _ => by kernel_rfl)⟩ ?_
  refine tabOk_cons ⟨by kernel_rfl, by kernel_rfl, by kernel_rfl, by kernel_rfl, trivial, (fun _ => ⟨by kernel_rfl, by kernel_rfl, by kernel_rfl⟩), (fun _ => by kernel_rfl)⟩ ?_
  refine tabOk_cons ⟨by kernel_rfl, by kernel_rfl, by kernel_rfl, by kernel_rfl, trivial, (fun _ => ⟨by kernel_rfl, by kernel_rfl, by kernel_rfl⟩), (fun _ => by kernel_rfl)⟩ ?_
  refine tabOk_cons ⟨by kernel_rfl, by kernel_rfl, by kernel_rfl, by kernel_rfl, trivial, (fun _ => ⟨by kernel_rfl, by kernel_rfl, by kernel_rfl⟩), (fun _ => by kernel_rfl)⟩ ?_
  refine tabOk_cons ⟨by kernel_rfl, by kernel_rfl, by kernel_rfl, by kernel_rfl, trivial, (fun _ => ⟨by kernel_rfl, by kernel_rfl, by kernel_rfl⟩), (fun _ => by kernel_rfl)⟩ ?_
  refine tabOk_cons ⟨by kernel_rfl, by kernel_rfl, by kernel_rfl, by kernel_rfl, trivial, (fun _ => ⟨by kernel_rfl, by kernel_rfl, by kernel_rfl⟩), (fun _ => by kernel_rfl)⟩ ?_
  refine tabOk_cons ⟨by kernel_rfl, by kernel_rfl, by kernel_rfl, by kernel_rfl, trivial, (fun _ => ⟨by kernel_rfl, by kernel_rfl, by kernel_rfl⟩), (fun _ => by kernel_rfl)⟩ ?_
  refine tabOk_cons ⟨by kernel_rfl, by kernel_rfl, by kernel_rfl, by kernel_rfl, trivial, (fun _ => ⟨by kernel_rfl, by kernel_rfl, by kernel_rfl⟩), (fun _ => by kernel_rfl)⟩ ?_
  refine tabOk_cons ⟨by kernel_rfl, by kernel_rfl, by kernel_rfl, by kernel_rfl, d_struct (by kernel_rfl), (fun _ => ⟨by kernel_rfl, by kernel_rfl, by kernel_rfl⟩), (fun h => by cases h)⟩ ?_
  refine tabOk_cons ⟨by kernel_rfl, by kernel_rfl, by kernel_rfl, by kernel_rfl, d_struct (by kernel_rfl), (fun _ => ⟨by kernel_rfl, by kernel_rfl, by kernel_rfl⟩), (fun h => by cases h)⟩ ?_
  refine tabOk_cons ⟨by kernel_rfl, by kernel_rfl, by kernel_rfl, by kernel_rfl, trivial, (fun _ => ⟨by kernel_rfl, by kernel_rfl, by kernel_rfl⟩), (fun _ => by kernel_rfl)⟩ ?_
  refine tabOk_cons ⟨by kernel_rfl, by kernel_rfl, by kernel_rfl, by kernel_rfl, trivial, (fun _ => ⟨by kernel_rfl, by kernel_rfl, by kernel_rfl⟩), (fun _ => by kernel_rfl)⟩ ?_
  refine tabOk_cons ⟨by kernel_rfl, by kernel_rfl, by kernel_rfl, by kernel_rfl, d_struct (by kernel_rfl), (fun _ => ⟨by kernel_rfl, by kernel_rfl, by kernel_rfl⟩), (fun h => by cases h)⟩ ?_
  refine tabOk_cons ⟨by kernel_rfl, by kernel_rfl, by kernel_rfl, by kernel_rfl, d_struct (by kernel_rfl), (fun _ => ⟨by kernel_rfl, by kernel_rfl, by kernel_rfl⟩), (fun h => by cases h)⟩ ?_
  refine tabOk_cons ⟨by kernel_rfl, by kernel_rfl, by kernel_rfl, by kernel_rfl, trivial, (fun _ => ⟨by kernel_rfl, by kernel_rfl, by kernel_rfl⟩), (fun _ => by kernel_rfl)⟩ ?_
  refine tabOk_cons ⟨by kernel_rfl, by kernel_rfl, by kernel_rfl, by kernel_rfl, d_map (by kernel_rfl), (fun _ => ⟨by kernel_rfl, by kernel_rfl, by kernel_rfl⟩), (fun _ => by kernel_rfl)⟩ ?_
  refine tabOk_cons ⟨by kernel_rfl, by kernel_rfl, by kernel_rfl, by kernel_rfl, trivial, (fun _ => ⟨by kernel_rfl, by kernel_rfl, by kernel_rfl⟩), (fun _ => by kernel_rfl)⟩ ?_
  refine tabOk_cons ⟨by kernel_rfl, by kernel_rfl, by kernel_rfl, by kernel_rfl, trivial, (fun _ => ⟨by kernel_rfl, by kernel_rfl, by kernel_rfl⟩), (fun _ => by kernel_rfl)⟩ ?_
  refine tabOk_cons ⟨by kernel_rfl, by kernel_rfl, by kernel_rfl, by kernel_rfl, trivial, (fun _ => ⟨by kernel_rfl, by kernel_rfl, by kernel_rfl⟩), (fun _ => by kernel_rfl)⟩ ?_
  refine tabOk_cons ⟨by kernel_rfl, by kernel_rfl, by kernel_rfl, by kernel_rfl, trivial, (fun _ => ⟨by kernel_rfl, by kernel_rfl, by kernel_rfl⟩), (fun _ => by kernel_rfl)⟩ ?_
  refine tabOk_cons ⟨by kernel_rfl, by kernel_rfl, by kernel_rfl, by kernel_rfl, trivial, (fun _ => ⟨by kernel_rfl, by kernel_rfl, by kernel_rfl⟩), (fun _ => by kernel_rfl)⟩ ?_
  refine tabOk_cons ⟨by kernel_rfl, by kernel_rfl, by kernel_rfl, by kernel_rfl, trivial, (fun _ => ⟨by kernel_rfl, by kernel_rfl, by kernel_rfl⟩), (fun _ => by kernel_rfl)⟩ ?_
  refine tabOk_cons ⟨by kernel_rfl, by kernel_rfl, by kernel_rfl, by kernel_rfl, d_slice (by kernel_rfl), (fun _ => ⟨by kernel_rfl, by kernel_rfl, by kernel_rfl⟩), (fun _ => by kernel_rfl)⟩ ?_
  refine tabOk_cons ⟨by kernel_rfl, by kernel_rfl, by kernel_rfl, by kernel_rfl, trivial, (fun _ => ⟨by kernel_rfl, by kernel_rfl, by kernel_rfl⟩), (fun _ => by kernel_rfl)⟩ ?_
  refine tabOk_cons ⟨by kernel_rfl, by kernel_rfl, by kernel_rfl, by kernel_rfl, trivial, (fun _ => ⟨by kernel_rfl, by kernel_rfl, by kernel_rfl⟩), (fun _ => by kernel_rfl)⟩ ?_
  refine tabOk_cons ⟨by kernel_rfl, by kernel_rfl, by kernel_rfl, by kernel_rfl, trivial, (fun _ => ⟨by kernel_rfl, by kernel_rfl, by kernel_rfl⟩), (fun _ => by kernel_rfl)⟩ ?_
  refine tabOk_cons ⟨by kernel_rfl, by kernel_rfl, by kernel_rfl, by kernel_rfl, trivial, (fun _ => ⟨by kernel_rfl, by kernel_rfl, by kernel_rfl⟩), (fun _ => by kernel_rfl)⟩ ?_
  refine tabOk_cons ⟨by kernel_rfl, by kernel_rfl, by kernel_rfl, by kernel_rfl, trivial, (fun _ => ⟨by kernel_rfl, by kernel_rfl, by kernel_rfl⟩), (fun _ => by kernel_rfl)⟩ ?_
  refine tabOk_cons ⟨by kernel_rfl, by kernel_rfl, by kernel_rfl, by kernel_rfl, trivial, (fun _ => ⟨by kernel_rfl, by kernel_rfl, by kernel_rfl⟩), (fun _ => by kernel_rfl)⟩ ?_
  refine tabOk_cons ⟨by kernel_rfl, by kernel_rfl, by kernel_rfl, by kernel_rfl, trivial, (fun _ => ⟨by kernel_rfl, by kernel_rfl, by kernel_rfl⟩), (fun _ => by kernel_rfl)⟩ ?_
  refine tabOk_cons ⟨by kernel_rfl, by kernel_rfl, by kernel_rfl, by kernel_rfl, trivial, (fun _ => ⟨by kernel_rfl, by kernel_rfl, by kernel_rfl⟩), (fun _ => by kernel_rfl)⟩ ?_
  refine tabOk_cons ⟨by kernel_rfl, by kernel_rfl, by kernel_rfl, by kernel_rfl, trivial, (fun _ => ⟨by kernel_rfl, by kernel_rfl, by kernel_rfl⟩), (fun _ => by kernel_rfl)⟩ ?_
  refine tabOk_cons ⟨by kernel_rfl, by kernel_rfl, by kernel_rfl, by kernel_rfl, trivial, (fun _ => ⟨by kernel_rfl, by kernel_rfl, by kernel_rfl⟩), (fun _ => by kernel_rfl)⟩ ?_
  refine tabOk_cons ⟨by kernel_rfl, by kernel_rfl, by kernel_rfl, by kernel_rfl, trivial, (fun _ => ⟨by kernel_rfl, by kernel_rfl, by kernel_rfl⟩), (fun _ => by kernel_rfl)⟩ ?_
  refine tabOk_cons ⟨by kernel_rfl, by kernel_rfl, by kernel_rfl, by kernel_rfl, trivial, (fun _ => ⟨by kernel_rfl, by kernel_rfl, by kernel_rfl⟩), (fun _ => by kernel_rfl)⟩ ?_
  refine tabOk_cons ⟨by kernel_rfl, by kernel_rfl, by kernel_rfl, by kernel_rfl, trivial, (fun _ => ⟨by kernel_rfl, by kernel_rfl, by kernel_rfl⟩), (fun _ => by kernel_rfl)⟩ ?_
  refine tabOk_cons ⟨by kernel_rfl, by kernel_rfl, by kernel_rfl, by kernel_rfl, trivial, (fun _ => ⟨by kernel_rfl, by kernel_rfl, by kernel_rfl⟩), (fun _ => by kernel_rfl)⟩ ?_
  refine tabOk_cons ⟨by kernel_rfl, by kernel_rfl, by kernel_rfl, by kernel_rfl, trivial, (fun _ => ⟨by kernel_rfl, by kernel_rfl, by kernel_rfl⟩), (fun _ => by kernel_rfl)⟩ ?_
  refine tabOk_cons ⟨by kernel_rfl, by kernel_rfl, by kernel_rfl, by kernel_rfl, trivial, (fun _ => ⟨by kernel_rfl, by kernel_rfl, by kernel_rfl⟩), (fun _ => by kernel_rfl)⟩ ?_
  refine tabOk_cons ⟨by kernel_rfl, by kernel_rfl, by kernel_rfl, by kernel_rfl, trivial, (fun _ => ⟨by kernel_rfl, by kernel_rfl, by kernel_rfl⟩), (fun _ => by kernel_rfl)⟩ ?_
  refine tabOk_cons ⟨by kernel_rfl, by kernel_rfl, by kernel_rfl, by kernel_rfl, d_slice (by kernel_rfl), (fun _ => ⟨by kernel_rfl, by kernel_rfl, by kernel_rfl⟩), (fun _ => by kernel_rfl)⟩ ?_
  refine tabOk_cons ⟨by kernel_rfl, by kernel_rfl, by kernel_rfl, by kernel_rfl, trivial, (fun _ => ⟨by kernel_rfl, by kernel_rfl, by kernel_rfl⟩), (fun _ => by kernel_rfl)⟩ ?_
  refine tabOk_cons ⟨by kernel_rfl, by kernel_rfl, by kernel_rfl, by kernel_rfl, d_int (by kernel_rfl), (fun _ => ⟨by kernel_rfl, by kernel_rfl, by kernel_rfl⟩), (fun _ => by kernel_rfl)⟩ ?_
  refine tabOk_cons ⟨by kernel_rfl, by kernel_rfl, by kernel_rfl, by kernel_rfl, trivial, (fun _ => ⟨by kernel_rfl, by kernel_rfl, by kernel_rfl⟩), (fun _ => by kernel_rfl)⟩ ?_
  refine tabOk_cons ⟨by kernel_rfl, by kernel_rfl, by kernel_rfl, by kernel_rfl, trivial, (fun _ => ⟨by kernel_rfl, by kernel_rfl, by kernel_rfl⟩), (fun _ => by kernel_rfl)⟩ ?_
  refine tabOk_cons ⟨by kernel_rfl, by kernel_rfl, by kernel_rfl, by kernel_rfl, trivial, (fun _ => ⟨by kernel_rfl, by kernel_rfl, by kernel_rfl⟩), (fun _ => by kernel_rfl)⟩ ?_
  refine tabOk_cons ⟨by kernel_rfl, by kernel_rfl, by kernel_rfl, by kernel_rfl, trivial, (fun _ => ⟨by kernel_rfl, by kernel_rfl, by kernel_rfl⟩), (fun _ => by kernel_rfl)⟩ ?_
  refine tabOk_cons ⟨by kernel_rfl, by kernel_rfl, by kernel_rfl, by kernel_rfl, trivial, (fun _ => ⟨by kernel_rfl, by kernel_rfl, by kernel_rfl⟩), (fun _ => by kernel_rfl)⟩ ?_
  refine tabOk_cons ⟨by kernel_rfl, by kernel_rfl, by kernel_rfl, by kernel_rfl, trivial, (fun _ => ⟨by kernel_rfl, by kernel_rfl, by kernel_rfl⟩), (fun _ => by kernel_rfl)⟩ ?_
  refine tabOk_cons ⟨by kernel_rfl, by kernel_rfl, by kernel_rfl, by kernel_rfl, d_struct (by kernel_rfl), (fun _ => ⟨by kernel_rfl, by kernel_rfl, by kernel_rfl⟩), (fun h => by cases h)⟩ ?_
  refine tabOk_cons ⟨by kernel_rfl, by kernel_rfl, by kernel_rfl, by kernel_rfl, d_struct (by kernel_rfl), (fun _ => ⟨by kernel_rfl, by kernel_rfl, by kernel_rfl⟩), (fun h => by cases h)⟩ ?_
  refine tabOk_cons ⟨by kernel_rfl, by kernel_rfl, by kernel_rfl, by kernel_rfl, trivial, (fun _ => ⟨by kernel_rfl, by kernel_rfl, by kernel_rfl⟩), (fun _ => by kernel_rfl)⟩ ?_
  refine tabOk_cons ⟨by kernel_rfl, by kernel_rfl, by kernel_rfl, by kernel_rfl, trivial, (fun _ => ⟨by kernel_rfl, by kernel_rfl, by kernel_rfl⟩), (fun _ => by kernel_rfl)⟩ ?_
  refine tabOk_cons ⟨by kernel_rfl, by kernel_rfl, by kernel_rfl, by kernel_rfl, trivial, (fun _ => ⟨by kernel_rfl, by kernel_rfl, by kernel_rfl⟩), (fun _ => by kernel_rfl)⟩ ?_
  refine tabOk_cons ⟨by kernel_rfl, by kernel_rfl, by kernel_rfl, by kernel_rfl, trivial, (fun _ => ⟨by kernel_rfl, by kernel_rfl, by kernel_rfl⟩), (fun _ => by kernel_rfl)⟩ ?_
  refine tabOk_cons ⟨by kernel_rfl, by kernel_rfl, by kernel_rfl, by kernel_rfl, trivial, (fun _ => ⟨by kernel_rfl, by kernel_rfl, by kernel_rfl⟩), (fun _ => by kernel_rfl)⟩ ?_
  refine tabOk_cons ⟨by kernel_rfl, by kernel_rfl, by kernel_rfl, by kernel_rfl, d_struct (by kernel_rfl), (fun _ => ⟨by kernel_rfl, by kernel_rfl, by kernel_rfl⟩), (fun h => by cases h)⟩ ?_
  refine tabOk_cons ⟨by kernel_rfl, by kernel_rfl, by kernel_rfl, by kernel_rfl, d_struct (by kernel_rfl), (fun _ => ⟨by kernel_rfl, by kernel_rfl, by kernel_rfl⟩), (fun h => by cases h)⟩ ?_
  refine tabOk_cons ⟨by kernel_rfl, by kernel_rfl, by kernel_rfl, by kernel_rfl, trivial, (fun _ => ⟨by kernel_rfl, by kernel_rfl, by kernel_rfl⟩), (fun _ => by kernel_rfl)⟩ ?_
  refine tabOk_cons ⟨by kernel_rfl, by kernel_rfl, by kernel_rfl, by kernel_rfl, trivial, (fun _ => ⟨by kernel_rfl, by kernel_rfl, by kernel_rfl⟩), (fun _ => by kernel_rfl)⟩ ?_
  refine tabOk_cons ⟨by kernel_rfl, by kernel_rfl, by kernel_rfl, by kernel_rfl, d_arr (by kernel_rfl), (fun _ => ⟨by kernel_rfl, by kernel_rfl, by kernel_rfl⟩), (fun h => by cases h)⟩ ?_
  refine tabOk_cons ⟨by kernel_rfl, by kernel_rfl, by kernel_rfl, by kernel_rfl, d_struct (by kernel_rfl), (fun h => by cases h), (fun h => by cases h)⟩ ?_
  refine tabOk_cons ⟨by kernel_rfl, by kernel_rfl, by kernel_rfl, by kernel_rfl, d_struct (by kernel_rfl), (fun h => by cases h), (fun h => by cases h)⟩ ?_
  refine tabOk_cons ⟨by kernel_rfl, by kernel_rfl, by kernel_rfl, by kernel_rfl, d_int (by kernel_rfl), (fun _ => ⟨by kernel_rfl, by kernel_rfl, by kernel_rfl⟩), (fun _ => by kernel_rfl)⟩ ?_
  refine tabOk_cons ⟨by kernel_rfl, by kernel_rfl, by kernel_rfl, by kernel_rfl, d_int (by kernel_rfl), (fun _ => ⟨by kernel_rfl, by kernel_rfl, by kernel_rfl⟩), (fun _ => by kernel_rfl)⟩ ?_
  refine tabOk_cons ⟨by kernel_rfl, by kernel_rfl, by kernel_rfl, by kernel_rfl, d_int (by kernel_rfl), (fun _ => ⟨by kernel_rfl, by kernel_rfl, by kernel_rfl⟩), (fun _ => by kernel_rfl)⟩ ?_
  refine tabOk_cons ⟨by kernel_rfl, by kernel_rfl, by kernel_rfl, by kernel_rfl, trivial, (fun _ => ⟨by kernel_rfl, by kernel_rfl, by kernel_rfl⟩), (fun _ => by kernel_rfl)⟩ ?_
  refine tabOk_cons ⟨by kernel_rfl, by kernel_rfl, by kernel_rfl, by kernel_rfl, trivial, (fun _ => ⟨by kernel_rfl, by kernel_rfl, by kernel_rfl⟩), (fun _ => by kernel_rfl)⟩ ?_
  refine tabOk_cons ⟨by kernel_rfl, by kernel_rfl, by kernel_rfl, by kernel_rfl, d_int (by kernel_rfl), (fun _ => ⟨by kernel_rfl, by kernel_rfl, by kernel_rfl⟩), (fun _ => by kernel_rfl)⟩ ?_
  refine tabOk_cons ⟨by kernel_rfl, by kernel_rfl, by kernel_rfl, by kernel_rfl, d_int (by kernel_rfl), (fun _ => ⟨by kernel_rfl, by kernel_rfl, by kernel_rfl⟩), (fun _ => by kernel_rfl)⟩ ?_
  refine tabOk_cons ⟨by kernel_rfl, by kernel_rfl, by kernel_rfl, by kernel_rfl, d_struct (by kernel_rfl), (fun h => by cases h), (fun h => by cases h)⟩ ?_
  refine tabOk_cons ⟨by kernel_rfl, by kernel_rfl, by kernel_rfl, by kernel_rfl, d_struct (by kernel_rfl), (fun h => by cases h), (fun h => by cases h)⟩ ?_
  exact tabOk_nil _
theorem hmix : Try.prog.follows .mixedOrders = true := by kernel_rfl
section
variable {rd : Option Nat} {N n0 : Nat} {ops : Array Oper}
theorem rk (orc : List (Nat × SV)) (n i : Nat) {s : St} (s' : St) (ks : List Prop) {K : St → Prop} (hk : All ks) (hx : XOi rd Try.prog N n0 ops (i + n) K s')
    (h : xrunk TT N ops orc n i (s'.fr.map Prod.fst) (s'.mem.map Prod.fst) s = some (s', ks) := by kernel_rfl) : XOi rd Try.prog N n0 ops i K s := rk_ TT_ok orc n i s' ks hk hx h
theorem rg (orc : List (Nat × SV)) (n : Nat) {id : Nat} {y : Code} {s : St} (s' : St) (ks : List Prop) {K : XE → St → Prop} (hk : All ks) (hx : XW rd Try.prog N n0 y K s')
    (h : xrunk TT N ops orc n 0 (s'.fr.map Prod.fst) (s'.mem.map Prod.fst) s = some (s', ks) := by kernel_rfl) (hn : ops.toList.drop (0 + n) = [] := by kernel_rfl) : XW rd Try.prog N n0 (.seq (.region id ops false) y) K s := rg_ TT_ok orc n s' ks hk hx h hn
theorem re (orc : List (Nat × SV)) (n : Nat) {id : Nat} {s : St} (s' : St) (ks : List Prop) {K : XE → St → Prop} (hk : All ks) (hx : K .normal s')
    (h : xrunk TT N ops orc n 0 (s'.fr.map Prod.fst) (s'.mem.map Prod.fst) s = some (s', ks) := by kernel_rfl) (hn : ops.toList.drop (0 + n) = [] := by kernel_rfl) : XW rd Try.prog N n0 (.region id ops false) K s := re_ TT_ok orc n s' ks hk hx h hn
theorem qr {mem : Mem} {nx : Nat} (orc : List (Nat × SV)) (n i : Nat) {fr : Fr} (fr' : Fr) (ks : List Prop) {K : Fr → Prop} (hk : All ks) (hx : QOi Try.prog N ops mem nx (i + n) K fr') (h : xqruni TT ops mem nx orc n i fr = some (fr', ks) := by kernel_rfl) : QOi Try.prog N ops mem nx i K fr := qr_ TT_ok orc n i fr' ks hk hx h
theorem sr {sg : List (Mem × Nat)} {ws : List Nat} {bf : List (Nat × List Nat)} (orc : List (Nat × SV)) (n i : Nat) {fr : Fr} (fr' : Fr) (ks : List Prop) {K : Fr → Prop} (hk : All ks) (hx : SO Try.prog N ops sg ws bf (i + n) K fr') (h : xsrun TT ops sg ws bf orc n i fr = some (fr', ks) := by kernel_rfl) : SO Try.prog N ops sg ws bf i K fr := sr_ TT_ok orc n i fr' ks hk hx h
end
end Go.Proofs.Ytlapjlbmhaalbaa.X
