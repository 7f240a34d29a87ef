/- The program's types as a table, each row proved against the loaded program. Printed by a program. -/
import Derived.Test.YtjchmajamlehmaaXm3
import Derived.Test.YtjchmajamlehmaaProg
namespace Go.Proofs.Ytjchmajamlehmaa.X
open Go Go.RowKit

def TT : Tab := [
  (1, ⟨1, false, 8, true, .other, [(.raw .nilFunc)]⟩),
  (2, ⟨1, false, 8, true, (.int .i64), [(.int .i64 0)]⟩),
  (3, ⟨1, false, 8, true, (.int .i64), [(.int .i64 0)]⟩),
  (4, ⟨1, false, 1, true, .bool, [(.bool false)]⟩),
  (5, ⟨1, false, 1, true, (.int .u8), [(.int .u8 0)]⟩),
  (6, ⟨1, false, 1, true, (.int .u8), [(.int .u8 0)]⟩),
  (7, ⟨4, true, 24, true, (.struct [(0, 2), (1, 3), (2, 4), (3, 6)]), [(.int .i64 0), (.int .i64 0), (.bool false), (.int .u8 0)]⟩),
  (8, ⟨4, true, 24, true, (.struct [(0, 2), (1, 3), (2, 4), (3, 6)]), [(.int .i64 0), (.int .i64 0), (.bool false), (.int .u8 0)]⟩),
  (12, ⟨1, false, 8, true, (.int .u64), [(.int .u64 0)]⟩),
  (15, ⟨1, false, 8, true, .other, [(.raw (.pointer none))]⟩),
  (16, ⟨1, false, 8, true, .other, [(.raw (.pointer none))]⟩),
  (17, ⟨1, false, 8, true, .other, [(.raw (.pointer none))]⟩),
  (18, ⟨1, true, 8, false, (.struct [(0, 17)]), [(.raw (.pointer none))]⟩),
  (19, ⟨1, true, 8, false, (.struct [(0, 17)]), [(.raw (.pointer none))]⟩),
  (21, ⟨1, false, 4, true, (.int .i32), [(.int .i32 0)]⟩),
  (22, ⟨1, false, 24, true, (.slice 47), [.nils]⟩),
  (23, ⟨2, true, 48, true, (.arr 2 22), [.nils, .nils]⟩),
  (24, ⟨3, true, 56, true, (.struct [(0, 3), (1, 23)]), [(.int .i64 0), .nils, .nils]⟩),
  (25, ⟨3, true, 56, true, (.struct [(0, 3), (1, 23)]), [(.int .i64 0), .nils, .nils]⟩),
  (26, ⟨3, true, 24, true, (.struct [(0, 3), (1, 3), (2, 3)]), [(.int .i64 0), (.int .i64 0), (.int .i64 0)]⟩),
  (27, ⟨3, true, 24, true, (.struct [(0, 3), (1, 3), (2, 3)]), [(.int .i64 0), (.int .i64 0), (.int .i64 0)]⟩),
  (28, ⟨1, false, 24, true, (.slice 44), [.nils]⟩),
  (29, ⟨1, false, 24, true, (.slice 3), [.nils]⟩),
  (30, ⟨1, false, 8, true, (.int .i64), [(.int .i64 0)]⟩),
  (31, ⟨17, true, 200, true, (.struct [(0, 25), (3, 27), (6, 27), (9, 3), (10, 3), (11, 28), (12, 3), (13, 3), (14, 3), (15, 29), (16, 30)]), [(.int .i64 0), .nils, .nils, (.int .i64 0), (.int .i64 0), (.int .i64 0), (.int .i64 0), (.int .i64 0), (.int .i64 0), (.int .i64 0), (.int .i64 0), .nils, (.int .i64 0), (.int .i64 0), (.int .i64 0), .nils, (.int .i64 0)]⟩),
  (32, ⟨17, true, 200, true, (.struct [(0, 25), (3, 27), (6, 27), (9, 3), (10, 3), (11, 28), (12, 3), (13, 3), (14, 3), (15, 29), (16, 30)]), [(.int .i64 0), .nils, .nils, (.int .i64 0), (.int .i64 0), (.int .i64 0), (.int .i64 0), (.int .i64 0), (.int .i64 0), (.int .i64 0), (.int .i64 0), .nils, (.int .i64 0), (.int .i64 0), (.int .i64 0), .nils, (.int .i64 0)]⟩),
  (33, ⟨1, false, 8, true, .other, [(.raw .nilFunc)]⟩),
  (34, ⟨1, false, 8, true, .other, [(.raw .nilFunc)]⟩),
  (35, ⟨1, false, 8, true, .other, [(.raw .nilFunc)]⟩),
  (36, ⟨1, false, 8, true, .other, [(.raw .nilFunc)]⟩),
  (37, ⟨1, false, 8, true, .other, [(.raw .nilFunc)]⟩),
  (38, ⟨2, true, 16, true, (.struct [(0, 3), (1, 3)]), [(.int .i64 0), (.int .i64 0)]⟩),
  (39, ⟨2, true, 16, true, (.struct [(0, 3), (1, 3)]), [(.int .i64 0), (.int .i64 0)]⟩),
  (40, ⟨1, false, 24, true, (.slice 55), [.nils]⟩),
  (41, ⟨1, false, 24, true, (.slice 51), [.nils]⟩),
  (42, ⟨1, false, 24, true, (.slice 53), [.nils]⟩),
  (43, ⟨8, true, 144, true, (.struct [(0, 22), (1, 39), (3, 40), (4, 41), (5, 40), (6, 4), (7, 42)]), [.nils, (.int .i64 0), (.int .i64 0), .nils, .nils, .nils, (.bool false), .nils]⟩),
  (44, ⟨8, true, 144, true, (.struct [(0, 22), (1, 39), (3, 40), (4, 41), (5, 40), (6, 4), (7, 42)]), [.nils, (.int .i64 0), (.int .i64 0), .nils, .nils, .nils, (.bool false), .nils]⟩),
  (45, ⟨1, false, 8, true, .other, [(.raw .nilFunc)]⟩),
  (46, ⟨1, false, 8, true, .other, [(.raw .nilFunc)]⟩),
  (47, ⟨1, false, 8, true, (.int .u64), [(.int .u64 0)]⟩),
  (48, ⟨3, true, 24, true, (.struct [(0, 3), (1, 3), (2, 47)]), [(.int .i64 0), (.int .i64 0), (.int .u64 0)]⟩),
  (49, ⟨3, true, 24, true, (.struct [(0, 3), (1, 3), (2, 47)]), [(.int .i64 0), (.int .i64 0), (.int .u64 0)]⟩),
  (50, ⟨8, true, 64, true, (.struct [(0, 3), (1, 3), (2, 3), (3, 3), (4, 47), (5, 49)]), [(.int .i64 0), (.int .i64 0), (.int .i64 0), (.int .i64 0), (.int .u64 0), (.int .i64 0), (.int .i64 0), (.int .u64 0)]⟩),
  (51, ⟨8, true, 64, true, (.struct [(0, 3), (1, 3), (2, 3), (3, 3), (4, 47), (5, 49)]), [(.int .i64 0), (.int .i64 0), (.int .i64 0), (.int .i64 0), (.int .u64 0), (.int .i64 0), (.int .i64 0), (.int .u64 0)]⟩),
  (52, ⟨3, true, 24, true, (.struct [(0, 30), (1, 47), (2, 4)]), [(.int .i64 0), (.int .u64 0), (.bool false)]⟩),
  (53, ⟨3, true, 24, true, (.struct [(0, 30), (1, 47), (2, 4)]), [(.int .i64 0), (.int .u64 0), (.bool false)]⟩),
  (54, ⟨2, true, 16, true, (.struct [(0, 47), (1, 3)]), [(.int .u64 0), (.int .i64 0)]⟩),
  (55, ⟨2, true, 16, true, (.struct [(0, 47), (1, 3)]), [(.int .u64 0), (.int .i64 0)]⟩),
  (56, ⟨1, false, 8, true, .other, [(.raw .nilFunc)]⟩),
  (57, ⟨22, true, 240, true, (.struct [(0, 32), (17, 3), (18, 53), (21, 3)]), [(.int .i64 0), .nils, .nils, (.int .i64 0), (.int .i64 0), (.int .i64 0), (.int .i64 0), (.int .i64 0), (.int .i64 0), (.int .i64 0), (.int .i64 0), .nils, (.int .i64 0), (.int .i64 0), (.int .i64 0), .nils, (.int .i64 0), (.int .i64 0), (.int .i64 0), (.int .u64 0), (.bool false), (.int .i64 0)]⟩),
  (58, ⟨22, true, 240, true, (.struct [(0, 32), (17, 3), (18, 53), (21, 3)]), [(.int .i64 0), .nils, .nils, (.int .i64 0), (.int .i64 0), (.int .i64 0), (.int .i64 0), (.int .i64 0), (.int .i64 0), (.int .i64 0), (.int .i64 0), .nils, (.int .i64 0), (.int .i64 0), (.int .i64 0), .nils, (.int .i64 0), (.int .i64 0), (.int .i64 0), (.int .u64 0), (.bool false), (.int .i64 0)]⟩),
  (59, ⟨1, false, 8, true, .other, [(.raw .nilFunc)]⟩),
  (60, ⟨1, false, 8, true, .other, [(.raw .nilFunc)]⟩),
  (61, ⟨1, false, 8, true, .other, [(.raw .nilFunc)]⟩),
  (62, ⟨1, false, 8, true, .other, [(.raw .nilFunc)]⟩),
  (63, ⟨1, false, 8, true, .other, [(.raw (.pointer none))]⟩),
  (64, ⟨37, true, 440, true, (.struct [(0, 32), (17, 44), (25, 51), (33, 53), (36, 4)]), [(.int .i64 0), .nils, .nils, (.int .i64 0), (.int .i64 0), (.int .i64 0), (.int .i64 0), (.int .i64 0), (.int .i64 0), (.int .i64 0), (.int .i64 0), .nils, (.int .i64 0), (.int .i64 0), (.int .i64 0), .nils, (.int .i64 0), .nils, (.int .i64 0), (.int .i64 0), .nils, .nils, .nils, (.bool false), .nils, (.int .i64 0), (.int .i64 0), (.int .i64 0), (.int .i64 0), (.int .u64 0), (.int .i64 0), (.int .i64 0), (.int .u64 0), (.int .i64 0), (.int .u64 0), (.bool false), (.bool false)]⟩),
  (65, ⟨37, true, 440, true, (.struct [(0, 32), (17, 44), (25, 51), (33, 53), (36, 4)]), [(.int .i64 0), .nils, .nils, (.int .i64 0), (.int .i64 0), (.int .i64 0), (.int .i64 0), (.int .i64 0), (.int .i64 0), (.int .i64 0), (.int .i64 0), .nils, (.int .i64 0), (.int .i64 0), (.int .i64 0), .nils, (.int .i64 0), .nils, (.int .i64 0), (.int .i64 0), .nils, .nils, .nils, (.bool false), .nils, (.int .i64 0), (.int .i64 0), (.int .i64 0), (.int .i64 0), (.int .u64 0), (.int .i64 0), (.int .i64 0), (.int .u64 0), (.int .i64 0), (.int .u64 0), (.bool false), (.bool false)]⟩),
  (67, ⟨1, false, 8, true, .other, [(.raw .nilFunc)]⟩),
  (68, ⟨1, false, 8, true, .other, [(.raw .nilFunc)]⟩),
  (69, ⟨1, false, 8, true, .other, [(.raw .nilFunc)]⟩),
  (71, ⟨1, false, 8, true, (.map 3 1), [(.raw (.map none))]⟩),
  (72, ⟨1, false, 8, true, .other, [(.raw .nilFunc)]⟩),
  (73, ⟨1, false, 8, true, .other, [(.raw .nilFunc)]⟩),
  (74, ⟨1, false, 8, true, .other, [(.raw .nilFunc)]⟩),
  (75, ⟨1, false, 8, true, .other, [(.raw .nilFunc)]⟩),
  (76, ⟨1, false, 8, true, .other, [(.raw .nilFunc)]⟩),
  (77, ⟨1, false, 8, true, .other, [(.raw .nilFunc)]⟩),
  (78, ⟨1, false, 8, true, .other, [(.raw .nilFunc)]⟩),
  (79, ⟨1, false, 8, true, .other, [(.raw .nilFunc)]⟩),
  (80, ⟨1, false, 8, true, .other, [(.raw .nilFunc)]⟩),
  (81, ⟨1, false, 8, true, .other, [(.raw .nilFunc)]⟩),
  (83, ⟨1, false, 8, true, .other, [(.raw .nilFunc)]⟩),
  (84, ⟨1, false, 8, true, .other, [(.raw .nilFunc)]⟩),
  (86, ⟨1, false, 8, true, .other, [(.raw .nilFunc)]⟩),
  (87, ⟨1, false, 8, true, .other, [(.raw .nilFunc)]⟩),
  (89, ⟨1, false, 8, true, .other, [(.raw .nilFunc)]⟩),
  (90, ⟨1, false, 8, true, .other, [(.raw .nilFunc)]⟩),
  (91, ⟨1, false, 8, true, .other, [(.raw .nilFunc)]⟩),
  (92, ⟨8, true, 96, true, (.struct [(0, 25), (3, 27), (6, 39)]), [(.int .i64 0), .nils, .nils, (.int .i64 0), (.int .i64 0), (.int .i64 0), (.int .i64 0), (.int .i64 0)]⟩),
  (93, ⟨8, true, 96, true, (.struct [(0, 25), (3, 27), (6, 39)]), [(.int .i64 0), .nils, .nils, (.int .i64 0), (.int .i64 0), (.int .i64 0), (.int .i64 0), (.int .i64 0)]⟩),
  (95, ⟨1, false, 8, true, .other, [(.raw .nilFunc)]⟩),
  (97, ⟨1, false, 8, true, .other, [(.raw .nilFunc)]⟩),
  (99, ⟨1, false, 8, true, .other, [(.raw .nilFunc)]⟩),
  (101, ⟨1, false, 8, true, .other, [(.raw .nilFunc)]⟩),
  (102, ⟨1, false, 8, true, .other, [(.raw .nilFunc)]⟩),
  (103, ⟨1, false, 8, true, .other, [(.raw .nilFunc)]⟩),
  (105, ⟨1, false, 8, true, .other, [(.raw .nilFunc)]⟩),
  (106, ⟨1, false, 8, true, .other, [(.raw .nilFunc)]⟩),
  (107, ⟨1, false, 8, true, .other, [(.raw .nilFunc)]⟩),
  (108, ⟨1, false, 8, true, .other, [(.raw .nilFunc)]⟩),
  (109, ⟨1, false, 8, true, .other, [(.raw .nilFunc)]⟩),
  (110, ⟨1, false, 8, true, .other, [(.raw .nilFunc)]⟩),
  (111, ⟨1, false, 8, true, .other, [(.raw .nilFunc)]⟩),
  (113, ⟨1, false, 8, true, .other, [(.raw .nilFunc)]⟩),
  (114, ⟨1, false, 8, true, .other, [(.raw .nilFunc)]⟩),
  (115, ⟨1, false, 8, true, .other, [(.raw .nilFunc)]⟩),
  (117, ⟨1, false, 8, true, .other, [(.raw .nilFunc)]⟩),
  (118, ⟨1, false, 8, true, .other, [(.raw .nilFunc)]⟩),
  (119, ⟨1, false, 8, true, .other, [(.raw .nilFunc)]⟩),
  (120, ⟨1, false, 8, true, .other, [(.raw .nilFunc)]⟩),
  (121, ⟨1, false, 8, true, .other, [(.raw .nilFunc)]⟩),
  (122, ⟨1, false, 24, true, (.slice 119), [.nils]⟩),
  (123, ⟨1, false, 8, true, .other, [(.raw .nilFunc)]⟩),
  (125, ⟨1, false, 8, true, .other, [(.raw .nilFunc)]⟩),
  (126, ⟨1, false, 8, true, .other, [(.raw .nilFunc)]⟩),
  (128, ⟨1, false, 8, true, .other, [(.raw .nilFunc)]⟩),
  (129, ⟨1, false, 8, true, .other, [(.raw .nilFunc)]⟩),
  (130, ⟨1, false, 8, true, .other, [(.raw .nilFunc)]⟩),
  (131, ⟨1, false, 8, true, (.int .u64), [(.int .u64 0)]⟩),
  (132, ⟨1, false, 8, true, .other, [(.raw .nilFunc)]⟩),
  (133, ⟨1, false, 8, true, .other, [(.raw .nilFunc)]⟩),
  (134, ⟨3, true, 56, true, (.struct [(0, 25)]), [(.int .i64 0), .nils, .nils]⟩),
  (135, ⟨3, true, 56, true, (.struct [(0, 25)]), [(.int .i64 0), .nils, .nils]⟩),
  (137, ⟨1, false, 8, true, .other, [(.raw .nilFunc)]⟩),
  (138, ⟨1, false, 8, true, .other, [(.raw .nilFunc)]⟩),
  (139, ⟨1, false, 8, true, .other, [(.raw .nilFunc)]⟩),
  (141, ⟨1, false, 8, true, .other, [(.raw .nilFunc)]⟩),
  (143, ⟨1, false, 8, true, .other, [(.raw .nilFunc)]⟩),
  (144, ⟨1, false, 8, true, .other, [(.raw .nilFunc)]⟩),
  (145, ⟨2, true, 16, true, (.struct [(0, 3), (1, 3)]), [(.int .i64 0), (.int .i64 0)]⟩),
  (146, ⟨2, true, 16, true, (.struct [(0, 3), (1, 3)]), [(.int .i64 0), (.int .i64 0)]⟩),
  (148, ⟨1, false, 8, true, .other, [(.raw .nilFunc)]⟩),
  (149, ⟨1, false, 2, true, (.int .u16), [(.int .u16 0)]⟩),
  (150, ⟨1, false, 2, true, (.int .i16), [(.int .i16 0)]⟩),
  (151, ⟨1, false, 8, true, .other, [(.raw .nilFunc)]⟩),
  (152, ⟨1, false, 8, true, .other, [(.raw .nilFunc)]⟩),
  (155, ⟨0, true, 0, true, (.arr 0 16), []⟩),
  (156, ⟨0, true, 0, false, (.struct [(0, 155)]), []⟩),
  (157, ⟨0, true, 0, false, (.struct [(0, 155)]), []⟩),
  (158, ⟨1, false, 4, true, (.int .u32), [(.int .u32 0)]⟩),
  (159, ⟨1, false, 1, true, (.int .u8), [(.int .u8 0)]⟩),
  (160, ⟨1, false, 1, true, (.int .u8), [(.int .u8 0)]⟩),
  (161, ⟨1, false, 8, true, .other, [(.raw .nilFunc)]⟩),
  (162, ⟨1, false, 8, true, .other, [(.raw (.pointer none))]⟩),
  (163, ⟨1, false, 4, true, (.int .i32), [(.int .i32 0)]⟩),
  (164, ⟨1, false, 4, true, (.int .i32), [(.int .i32 0)]⟩),
  (165, ⟨11, true, 48, false, (.struct [(0, 12), (1, 12), (2, 158), (3, 159), (4, 5), (5, 5), (6, 160), (7, 161), (8, 162), (9, 163), (10, 164)]), [(.int .u64 0), (.int .u64 0), (.int .u32 0), (.int .u8 0), (.int .u8 0), (.int .u8 0), (.int .u8 0), (.raw .nilFunc), (.raw (.pointer none)), (.int .i32 0), (.int .i32 0)]⟩),
  (166, ⟨11, true, 48, false, (.struct [(0, 12), (1, 12), (2, 158), (3, 159), (4, 5), (5, 5), (6, 160), (7, 161), (8, 162), (9, 163), (10, 164)]), [(.int .u64 0), (.int .u64 0), (.int .u32 0), (.int .u8 0), (.int .u8 0), (.int .u8 0), (.int .u8 0), (.raw .nilFunc), (.raw (.pointer none)), (.int .i32 0), (.int .i32 0)]⟩),
  (167, ⟨1, false, 8, true, .other, [(.raw (.pointer none))]⟩)]
theorem d_int {P : Program} {t : Nat} {k : IntKind} (h : P.underlying t = some (.int k) := by kernel_rfl) : DescOk P t (.int k) := h
theorem d_bool {P : Program} {t : Nat} (h : P.underlying t = some .bool := by kernel_rfl) : DescOk P t .bool := h
theorem d_struct {P : Program} {t : Nat} {fs : List (Nat × Nat)} (h : (P.underlying t).bind structFs = some fs := by kernel_rfl) : DescOk P t (.struct fs) := h
theorem d_arr {P : Program} {t n e : Nat} (h : P.underlying t = some (.array n e) := by kernel_rfl) : DescOk P t (.arr n e) := h
theorem d_map {P : Program} {t k e : Nat} (h : P.underlying t = some (.map k e) := by kernel_rfl) : DescOk P t (.map k e) := h
theorem d_slice {P : Program} {t e : Nat} (h : P.underlying t = some (.slice e) := by kernel_rfl) : DescOk P t (.slice e) := h
theorem tka {P : Program} {T : Tab} {t c b : Nat} {D : TD} {z : List SV} (d : DescOk P t D) (hT : TabOk P T) (h1 : (P.info? t).map (fun i => (i.size, i.bytes)) = some (c, b) := by kernel_rfl) (h2 : ((P.info? t).bind (·.zero)).map (fun zv => zv.cells.toList.map some) = some (z.map SV.const) := by kernel_rfl) (h3 : z.length = c := by kernel_rfl) (h4 : (P.underlying t).map isAggD = some false := by kernel_rfl) (e1 : P.stoodInHeld t = false := by kernel_rfl) (e2 : P.eqGuardType P.depth t = false := by kernel_rfl) (e3 : (P.underlying t).map noBlank = some true := by kernel_rfl) (o : ((P.info? t).bind (·.zero)).map Value.oneCell' = some true := by kernel_rfl) : TabOk P ((t, ⟨c, false, b, true, D, z⟩) :: T) := tabOk_cons ⟨h1, h2, h3, h4, d, (fun _ => ⟨e1, e2, e3⟩), (fun _ => o)⟩ hT
theorem tkb {P : Program} {T : Tab} {t c b : Nat} {D : TD} {z : List SV} (d : DescOk P t D) (hT : TabOk P T) (h1 : (P.info? t).map (fun i => (i.size, i.bytes)) = some (c, b) := by kernel_rfl) (h2 : ((P.info? t).bind (·.zero)).map (fun zv => zv.cells.toList.map some) = some (z.map SV.const) := by kernel_rfl) (h3 : z.length = c := by kernel_rfl) (h4 : (P.underlying t).map isAggD = some true := by kernel_rfl) (e1 : P.stoodInHeld t = false := by kernel_rfl) (e2 : P.eqGuardType P.depth t = false := by kernel_rfl) (e3 : (P.underlying t).map noBlank = some true := by kernel_rfl) : TabOk P ((t, ⟨c, true, b, true, D, z⟩) :: T) := tabOk_cons ⟨h1, h2, h3, h4, d, (fun _ => ⟨e1, e2, e3⟩), (fun h => nomatch h)⟩ hT
theorem tkc {P : Program} {T : Tab} {t c b : Nat} {D : TD} {z : List SV} (d : DescOk P t D) (hT : TabOk P T) (h1 : (P.info? t).map (fun i => (i.size, i.bytes)) = some (c, b) := by kernel_rfl) (h2 : ((P.info? t).bind (·.zero)).map (fun zv => zv.cells.toList.map some) = some (z.map SV.const) := by kernel_rfl) (h3 : z.length = c := by kernel_rfl) (h4 : (P.underlying t).map isAggD = some true := by kernel_rfl)  : TabOk P ((t, ⟨c, true, b, false, D, z⟩) :: T) := tabOk_cons ⟨h1, h2, h3, h4, d, (fun h => nomatch h), (fun h => nomatch h)⟩ hT
theorem TT_ok : TabOk Try.prog TT := by
  unfold TT
  refine tka trivial ?_
  refine tka d_int ?_
  refine tka d_int ?_
  refine tka d_bool ?_
  refine tka d_int ?_
  refine tka d_int ?_
  refine tkb d_struct ?_
  refine tkb d_struct ?_
  refine tka d_int ?_
  refine tka trivial ?_
  refine tka trivial ?_
  refine tka trivial ?_
  refine tkc d_struct ?_
  refine tkc d_struct ?_
  refine tka d_int ?_
  refine tka d_slice ?_
  refine tkb d_arr ?_
  refine tkb d_struct ?_
  refine tkb d_struct ?_
  refine tkb d_struct ?_
  refine tkb d_struct ?_
  refine tka d_slice ?_
  refine tka d_slice ?_
  refine tka d_int ?_
  refine tkb d_struct ?_
  refine tkb d_struct ?_
  refine tka trivial ?_
  refine tka trivial ?_
  refine tka trivial ?_
  refine tka trivial ?_
  refine tka trivial ?_
  refine tkb d_struct ?_
  refine tkb d_struct ?_
  refine tka d_slice ?_
  refine tka d_slice ?_
  refine tka d_slice ?_
  refine tkb d_struct ?_
  refine tkb d_struct ?_
  refine tka trivial ?_
  refine tka trivial ?_
  refine tka d_int ?_
  refine tkb d_struct ?_
  refine tkb d_struct ?_
  refine tkb d_struct ?_
  refine tkb d_struct ?_
  refine tkb d_struct ?_
  refine tkb d_struct ?_
  refine tkb d_struct ?_
  refine tkb d_struct ?_
  refine tka trivial ?_
  refine tkb d_struct ?_
  refine tkb d_struct ?_
  refine tka trivial ?_
  refine tka trivial ?_
  refine tka trivial ?_
  refine tka trivial ?_
  refine tka trivial ?_
  refine tkb d_struct ?_
  refine tkb d_struct ?_
  refine tka trivial ?_
  refine tka trivial ?_
  refine tka trivial ?_
  refine tka d_map ?_
  refine tka trivial ?_
  refine tka trivial ?_
  refine tka trivial ?_
  refine tka trivial ?_
  refine tka trivial ?_
  refine tka trivial ?_
  refine tka trivial ?_
  refine tka trivial ?_
  refine tka trivial ?_
  refine tka trivial ?_
  refine tka trivial ?_
  refine tka trivial ?_
  refine tka trivial ?_
  refine tka trivial ?_
  refine tka trivial ?_
  refine tka trivial ?_
  refine tka trivial ?_
  refine tkb d_struct ?_
  refine tkb d_struct ?_
  refine tka trivial ?_
  refine tka trivial ?_
  refine tka trivial ?_
  refine tka trivial ?_
  refine tka trivial ?_
  refine tka trivial ?_
  refine tka trivial ?_
  refine tka trivial ?_
  refine tka trivial ?_
  refine tka trivial ?_
  refine tka trivial ?_
  refine tka trivial ?_
  refine tka trivial ?_
  refine tka trivial ?_
  refine tka trivial ?_
  refine tka trivial ?_
  refine tka trivial ?_
  refine tka trivial ?_
  refine tka trivial ?_
  refine tka trivial ?_
  refine tka trivial ?_
  refine tka d_slice ?_
  refine tka trivial ?_
  refine tka trivial ?_
  refine tka trivial ?_
  refine tka trivial ?_
  refine tka trivial ?_
  refine tka trivial ?_
  refine tka d_int ?_
  refine tka trivial ?_
  refine tka trivial ?_
  refine tkb d_struct ?_
  refine tkb d_struct ?_
  refine tka trivial ?_
  refine tka trivial ?_
  refine tka trivial ?_
  refine tka trivial ?_
  refine tka trivial ?_
  refine tka trivial ?_
  refine tkb d_struct ?_
  refine tkb d_struct ?_
  refine tka trivial ?_
  refine tka d_int ?_
  refine tka d_int ?_
  refine tka trivial ?_
  refine tka trivial ?_
  refine tkb d_arr ?_
  refine tkc d_struct ?_
  refine tkc d_struct ?_
  refine tka d_int ?_
  refine tka d_int ?_
  refine tka d_int ?_
  refine tka trivial ?_
  refine tka trivial ?_
  refine tka d_int ?_
  refine tka d_int ?_
  refine tkc d_struct ?_
  refine tkc d_struct ?_
  refine tka trivial ?_
  exact tabOk_nil _
theorem hmix : Try.prog.follows .mixedOrders = true := by kernel_rfl
section
variable {rd : Option Nat} {N n0 : Nat} {ops : Array Oper}
theorem rk (orc : List (Nat × SV)) (n i : Nat) {s : St} (s' : St) (ks : List Prop) {K : St → Prop} (hk : All ks) (hx : XOi rd Try.prog N n0 ops (i + n) K s')
    (h : xrunk TT N ops orc n i (s'.fr.map Prod.fst) (s'.mem.map Prod.fst) s = some (s', ks) := by kernel_rfl) : XOi rd Try.prog N n0 ops i K s := rk_ TT_ok orc n i s' ks hk hx h
theorem rg (orc : List (Nat × SV)) (n : Nat) {id : Nat} {y : Code} {s : St} (s' : St) (ks : List Prop) {K : XE → St → Prop} (hk : All ks) (hx : XW rd Try.prog N n0 y K s')
    (h : xrunk TT N ops orc n 0 (s'.fr.map Prod.fst) (s'.mem.map Prod.fst) s = some (s', ks) := by kernel_rfl) (hn : ops.toList.drop (0 + n) = [] := by kernel_rfl) : XW rd Try.prog N n0 (.seq (.region id ops false) y) K s := rg_ TT_ok orc n s' ks hk hx h hn
theorem re (orc : List (Nat × SV)) (n : Nat) {id : Nat} {s : St} (s' : St) (ks : List Prop) {K : XE → St → Prop} (hk : All ks) (hx : K .normal s')
    (h : xrunk TT N ops orc n 0 (s'.fr.map Prod.fst) (s'.mem.map Prod.fst) s = some (s', ks) := by kernel_rfl) (hn : ops.toList.drop (0 + n) = [] := by kernel_rfl) : XW rd Try.prog N n0 (.region id ops false) K s := re_ TT_ok orc n s' ks hk hx h hn
theorem rki (orc : List (Nat × SV)) (n i : Nat) {s : St} (kf km : List Nat) (ks : List Prop) {K : St → Prop} (hk : All ks) (hx : XOi rd Try.prog N n0 ops (i + n) K (stO (xrunk TT N ops orc n i kf km s) s)) (h : ksO (xrunk TT N ops orc n i kf km s) = some ks := by kernel_rfl) : XOi rd Try.prog N n0 ops i K s := rki_ TT_ok orc n i kf km ks hk hx h
theorem rgi (orc : List (Nat × SV)) (n : Nat) {id : Nat} {y : Code} {s : St} (kf km : List Nat) (ks : List Prop) {K : XE → St → Prop} (hk : All ks) (hx : XW rd Try.prog N n0 y K (stO (xrunk TT N ops orc n 0 kf km s) s)) (h : ksO (xrunk TT N ops orc n 0 kf km s) = some ks := by kernel_rfl) (hn : ops.toList.drop (0 + n) = [] := by kernel_rfl) : XW rd Try.prog N n0 (.seq (.region id ops false) y) K s := rgi_ TT_ok orc n kf km ks hk hx h hn
theorem rei (orc : List (Nat × SV)) (n : Nat) {id : Nat} {s : St} (kf km : List Nat) (ks : List Prop) {K : XE → St → Prop} (hk : All ks) (hx : K .normal (stO (xrunk TT N ops orc n 0 kf km s) s)) (h : ksO (xrunk TT N ops orc n 0 kf km s) = some ks := by kernel_rfl) (hn : ops.toList.drop (0 + n) = [] := by kernel_rfl) : XW rd Try.prog N n0 (.region id ops false) K s := rei_ TT_ok orc n kf km ks hk hx h hn
theorem qri {mem : Mem} {nx : Nat} (orc : List (Nat × SV)) (n i : Nat) {fr : Fr} (ks : List Prop) {K : Fr → Prop} (hk : All ks) (hx : QOi Try.prog N ops mem nx (i + n) K (stO (xqruni TT ops mem nx orc n i fr) fr)) (h : ksO (xqruni TT ops mem nx orc n i fr) = some ks := by kernel_rfl) : QOi Try.prog N ops mem nx i K fr := qri_ TT_ok orc n i ks hk hx h
theorem sri {sg : List (Mem × Nat)} {ws : List Nat} {bf : List (Nat × List Nat)} (orc : List (Nat × SV)) (n i : Nat) {fr : Fr} (ks : List Prop) {K : Fr → Prop} (hk : All ks) (hx : SO Try.prog N ops sg ws bf (i + n) K (stO (xsrun TT ops sg ws bf orc n i fr) fr)) (h : ksO (xsrun TT ops sg ws bf orc n i fr) = some ks := by kernel_rfl) : SO Try.prog N ops sg ws bf i K fr := sri_ TT_ok orc n i ks hk hx h
end
end Go.Proofs.Ytjchmajamlehmaa.X
