/- The program's types as a table,each row proved against the loaded program. Printed by a program. -/
import Derived.Test.YtmmfpkkamgapkaaGreatXm3
import Derived.Test.YtmmfpkkamgapkaaGreatProg
namespace Go.Proofs.YtmmfpkkamgapkaaGreat.X
open Go Go.RowKit
def TT2:Tab :=
  (144,⟨1,false,8,true,.other,[(.raw .nilFunc)]⟩) ::
  (145,⟨1,false,8,true,.other,[(.raw .nilFunc)]⟩) ::
  (146,⟨1,false,8,true,.other,[(.raw .nilFunc)]⟩) ::
  (147,⟨1,false,8,true,.other,[(.raw .nilFunc)]⟩) ::
  (148,⟨1,false,8,true,.other,[(.raw .nilFunc)]⟩) ::
  (150,⟨1,false,8,true,.other,[(.raw .nilFunc)]⟩) ::
  (151,⟨1,false,8,true,.other,[(.raw .nilFunc)]⟩) ::
  (152,⟨1,false,8,true,.other,[(.raw .nilFunc)]⟩) ::
  (154,⟨1,false,8,true,.other,[(.raw .nilFunc)]⟩) ::
  (155,⟨1,false,8,true,.other,[(.raw .nilFunc)]⟩) ::
  (156,⟨1,false,8,true,.other,[(.raw .nilFunc)]⟩) ::
  (157,⟨1,false,8,true,.other,[(.raw .nilFunc)]⟩) ::
  (158,⟨1,false,24,true,(.slice 156),[.nils]⟩) ::
  (159,⟨1,false,8,true,.other,[(.raw .nilFunc)]⟩) ::
  (161,⟨1,false,8,true,.other,[(.raw .nilFunc)]⟩) ::
  (162,⟨1,false,8,true,.other,[(.raw .nilFunc)]⟩) ::
  (164,⟨1,false,8,true,.other,[(.raw .nilFunc)]⟩) ::
  (165,⟨1,false,8,true,.other,[(.raw .nilFunc)]⟩) ::
  (166,⟨1,false,8,true,.other,[(.raw .nilFunc)]⟩) ::
  (167,⟨1,false,8,true,(.int .u64),[(.int .u64 0)]⟩) ::
  (168,⟨1,false,8,true,.other,[(.raw .nilFunc)]⟩) ::
  (169,⟨1,false,8,true,.other,[(.raw .nilFunc)]⟩) ::
  (170,⟨3,true,56,true,(.struct [(0,25)]),[(.int .i64 0),.nils,.nils]⟩) ::
  (171,⟨3,true,56,true,(.struct [(0,25)]),[(.int .i64 0),.nils,.nils]⟩) ::
  (172,⟨1,false,8,true,.other,[(.raw .nilFunc)]⟩) ::
  (174,⟨1,false,8,true,.other,[(.raw .nilFunc)]⟩) ::
  (175,⟨1,false,8,true,.other,[(.raw .nilFunc)]⟩) ::
  (176,⟨2,true,16,true,(.struct [(0,3),(1,3)]),[(.int .i64 0),(.int .i64 0)]⟩) ::
  (177,⟨2,true,16,true,(.struct [(0,3),(1,3)]),[(.int .i64 0),(.int .i64 0)]⟩) ::
  (179,⟨1,false,8,true,.other,[(.raw .nilFunc)]⟩) ::
  (180,⟨1,false,2,true,(.int .u16),[(.int .u16 0)]⟩) ::
  (181,⟨1,false,2,true,(.int .i16),[(.int .i16 0)]⟩) ::
  (182,⟨1,false,8,true,.other,[(.raw .nilFunc)]⟩) ::
  (183,⟨1,false,8,true,.other,[(.raw .nilFunc)]⟩) ::
  (186,⟨0,true,0,true,(.arr 0 16),[]⟩) ::
  (187,⟨0,true,0,false,(.struct [(0,186)]),[]⟩) ::
  (188,⟨0,true,0,false,(.struct [(0,186)]),[]⟩) ::
  (189,⟨1,false,4,true,(.int .u32),[(.int .u32 0)]⟩) ::
  (190,⟨1,false,1,true,(.int .u8),[(.int .u8 0)]⟩) ::
  (191,⟨1,false,1,true,(.int .u8),[(.int .u8 0)]⟩) ::
  (192,⟨1,false,8,true,.other,[(.raw .nilFunc)]⟩) ::
  (193,⟨1,false,8,true,.other,[(.raw (.pointer none))]⟩) ::
  (194,⟨1,false,4,true,(.int .i32),[(.int .i32 0)]⟩) ::
  (195,⟨1,false,4,true,(.int .i32),[(.int .i32 0)]⟩) ::
  (196,⟨11,true,48,false,(.struct [(0,12),(1,12),(2,189),(3,190),(4,5),(5,5),(6,191),(7,192),(8,193),(9,194),(10,195)]),[(.int .u64 0),(.int .u64 0),(.int .u32 0),(.int .u8 0),(.int .u8 0),(.int .u8 0),(.int .u8 0),(.raw .nilFunc),(.raw (.pointer none)),(.int .i32 0),(.int .i32 0)]⟩) ::
  (197,⟨11,true,48,false,(.struct [(0,12),(1,12),(2,189),(3,190),(4,5),(5,5),(6,191),(7,192),(8,193),(9,194),(10,195)]),[(.int .u64 0),(.int .u64 0),(.int .u32 0),(.int .u8 0),(.int .u8 0),(.int .u8 0),(.int .u8 0),(.raw .nilFunc),(.raw (.pointer none)),(.int .i32 0),(.int .i32 0)]⟩) ::
  (198,⟨1,false,8,true,.other,[(.raw (.pointer none))]⟩) ::
  []
def TT1:Tab :=
  (71,⟨1,false,8,true,.other,[(.raw .nilFunc)]⟩) ::
  (72,⟨4096,true,4096,true,(.arr 4096 4),(List.replicate 4096 (.bool false))⟩) ::
  (73,⟨8192,true,8192,true,(.arr 2 72),(List.replicate 8192 (.bool false))⟩) ::
  (75,⟨1,false,8,true,.other,[(.raw .nilFunc)]⟩) ::
  (76,⟨1,false,8,true,.other,[(.raw .nilFunc)]⟩) ::
  (77,⟨1,false,8,true,.other,[(.raw (.pointer none))]⟩) ::
  (78,⟨37,true,440,true,(.struct [(0,32),(17,42),(25,60),(33,54),(36,4)]),[(.int .i64 0),.nils,.nils,(.int .i64 0),(.int .i64 0),(.int .i64 0),(.int .i64 0),(.int .i64 0),(.int .i64 0),(.int .i64 0),(.int .i64 0),.nils,(.int .i64 0),(.int .i64 0),(.int .i64 0),.nils,(.int .i64 0),.nils,(.int .i64 0),(.int .i64 0),.nils,.nils,.nils,(.bool false),.nils,(.int .i64 0),(.int .i64 0),(.int .i64 0),(.int .i64 0),(.int .u64 0),(.int .i64 0),(.int .i64 0),(.int .u64 0),(.int .i64 0),(.int .u64 0),(.bool false),(.bool false)]⟩) ::
  (79,⟨37,true,440,true,(.struct [(0,32),(17,42),(25,60),(33,54),(36,4)]),[(.int .i64 0),.nils,.nils,(.int .i64 0),(.int .i64 0),(.int .i64 0),(.int .i64 0),(.int .i64 0),(.int .i64 0),(.int .i64 0),(.int .i64 0),.nils,(.int .i64 0),(.int .i64 0),(.int .i64 0),.nils,(.int .i64 0),.nils,(.int .i64 0),(.int .i64 0),.nils,.nils,.nils,(.bool false),.nils,(.int .i64 0),(.int .i64 0),(.int .i64 0),(.int .i64 0),(.int .u64 0),(.int .i64 0),(.int .i64 0),(.int .u64 0),(.int .i64 0),(.int .u64 0),(.bool false),(.bool false)]⟩) ::
  (81,⟨1,false,8,true,.other,[(.raw .nilFunc)]⟩) ::
  (82,⟨2,true,16,true,(.struct [(0,52),(1,3)]),[(.int .u64 0),(.int .i64 0)]⟩) ::
  (83,⟨2,true,16,true,(.struct [(0,52),(1,3)]),[(.int .u64 0),(.int .i64 0)]⟩) ::
  (84,⟨1,false,8,true,.other,[(.raw .nilFunc)]⟩) ::
  (85,⟨1,false,8,true,.other,[(.raw .nilFunc)]⟩) ::
  (87,⟨1,false,8,true,(.map 3 1),[(.raw (.map none))]⟩) ::
  (88,⟨1,false,8,true,.other,[(.raw .nilFunc)]⟩) ::
  (89,⟨1,false,8,true,.other,[(.raw .nilFunc)]⟩) ::
  (90,⟨1,false,8,true,.other,[(.raw .nilFunc)]⟩) ::
  (91,⟨1,false,8,true,.other,[(.raw .nilFunc)]⟩) ::
  (92,⟨1,false,8,true,.other,[(.raw .nilFunc)]⟩) ::
  (93,⟨1,false,8,true,.other,[(.raw .nilFunc)]⟩) ::
  (95,⟨1,false,8,true,.other,[(.raw .nilFunc)]⟩) ::
  (96,⟨1,false,8,true,.other,[(.raw .nilFunc)]⟩) ::
  (97,⟨1,false,8,true,.other,[(.raw .nilFunc)]⟩) ::
  (98,⟨1,false,8,true,.other,[(.raw .nilFunc)]⟩) ::
  (99,⟨1,false,8,true,.other,[(.raw .nilFunc)]⟩) ::
  (100,⟨1,false,8,true,.other,[(.raw .nilFunc)]⟩) ::
  (101,⟨1,false,8,true,.other,[(.raw .nilFunc)]⟩) ::
  (102,⟨1,false,8,true,.other,[(.raw .nilFunc)]⟩) ::
  (104,⟨1,false,8,true,.other,[(.raw .nilFunc)]⟩) ::
  (105,⟨1,false,8,true,.other,[(.raw .nilFunc)]⟩) ::
  (106,⟨1,false,8,true,.other,[(.raw .nilFunc)]⟩) ::
  (107,⟨1,false,8,true,.other,[(.raw .nilFunc)]⟩) ::
  (108,⟨1,false,8,true,.other,[(.raw .nilFunc)]⟩) ::
  (109,⟨1,false,8,true,.other,[(.raw .nilFunc)]⟩) ::
  (111,⟨1,false,8,true,.other,[(.raw .nilFunc)]⟩) ::
  (112,⟨1,false,8,true,.other,[(.raw .nilFunc)]⟩) ::
  (114,⟨1,false,8,true,.other,[(.raw .nilFunc)]⟩) ::
  (115,⟨1,false,8,true,.other,[(.raw .nilFunc)]⟩) ::
  (117,⟨1,false,8,true,.other,[(.raw .nilFunc)]⟩) ::
  (118,⟨1,false,8,true,.other,[(.raw .nilFunc)]⟩) ::
  (119,⟨1,false,8,true,.other,[(.raw .nilFunc)]⟩) ::
  (120,⟨1,false,8,true,.other,[(.raw .nilFunc)]⟩) ::
  (121,⟨1,false,8,true,.other,[(.raw .nilFunc)]⟩) ::
  (122,⟨1,false,8,true,.other,[(.raw .nilFunc)]⟩) ::
  (123,⟨1,false,8,true,.other,[(.raw .nilFunc)]⟩) ::
  (124,⟨1,false,8,true,.other,[(.raw .nilFunc)]⟩) ::
  (125,⟨1,false,8,true,.other,[(.raw .nilFunc)]⟩) ::
  (126,⟨1,false,8,true,.other,[(.raw .nilFunc)]⟩) ::
  (127,⟨1,false,8,true,.other,[(.raw .nilFunc)]⟩) ::
  (128,⟨1,false,8,true,.other,[(.raw .nilFunc)]⟩) ::
  (129,⟨1,false,8,true,.other,[(.raw .nilFunc)]⟩) ::
  (130,⟨1,false,8,true,.other,[(.raw .nilFunc)]⟩) ::
  (131,⟨8,true,96,true,(.struct [(0,25),(3,27),(6,37)]),[(.int .i64 0),.nils,.nils,(.int .i64 0),(.int .i64 0),(.int .i64 0),(.int .i64 0),(.int .i64 0)]⟩) ::
  (132,⟨8,true,96,true,(.struct [(0,25),(3,27),(6,37)]),[(.int .i64 0),.nils,.nils,(.int .i64 0),(.int .i64 0),(.int .i64 0),(.int .i64 0),(.int .i64 0)]⟩) ::
  (134,⟨1,false,8,true,.other,[(.raw .nilFunc)]⟩) ::
  (136,⟨1,false,8,true,.other,[(.raw .nilFunc)]⟩) ::
  (138,⟨1,false,8,true,.other,[(.raw .nilFunc)]⟩) ::
  (140,⟨1,false,8,true,.other,[(.raw .nilFunc)]⟩) ::
  (141,⟨1,false,8,true,.other,[(.raw .nilFunc)]⟩) ::
  (143,⟨1,false,8,true,.other,[(.raw .nilFunc)]⟩) ::
  TT2
def TT:Tab :=
  (1,⟨1,false,8,true,.other,[(.raw .nilFunc)]⟩) ::
  (2,⟨1,false,8,true,(.int .i64),[(.int .i64 0)]⟩) ::
  (3,⟨1,false,8,true,(.int .i64),[(.int .i64 0)]⟩) ::
  (4,⟨1,false,1,true,.bool,[(.bool false)]⟩) ::
  (5,⟨1,false,1,true,(.int .u8),[(.int .u8 0)]⟩) ::
  (6,⟨1,false,1,true,(.int .u8),[(.int .u8 0)]⟩) ::
  (7,⟨4,true,24,true,(.struct [(0,2),(1,3),(2,4),(3,6)]),[(.int .i64 0),(.int .i64 0),(.bool false),(.int .u8 0)]⟩) ::
  (8,⟨4,true,24,true,(.struct [(0,2),(1,3),(2,4),(3,6)]),[(.int .i64 0),(.int .i64 0),(.bool false),(.int .u8 0)]⟩) ::
  (12,⟨1,false,8,true,(.int .u64),[(.int .u64 0)]⟩) ::
  (15,⟨1,false,8,true,.other,[(.raw (.pointer none))]⟩) ::
  (16,⟨1,false,8,true,.other,[(.raw (.pointer none))]⟩) ::
  (17,⟨1,false,8,true,.other,[(.raw (.pointer none))]⟩) ::
  (18,⟨1,true,8,false,(.struct [(0,17)]),[(.raw (.pointer none))]⟩) ::
  (19,⟨1,true,8,false,(.struct [(0,17)]),[(.raw (.pointer none))]⟩) ::
  (21,⟨1,false,4,true,(.int .i32),[(.int .i32 0)]⟩) ::
  (22,⟨1,false,24,true,(.slice 52),[.nils]⟩) ::
  (23,⟨2,true,48,true,(.arr 2 22),[.nils,.nils]⟩) ::
  (24,⟨3,true,56,true,(.struct [(0,3),(1,23)]),[(.int .i64 0),.nils,.nils]⟩) ::
  (25,⟨3,true,56,true,(.struct [(0,3),(1,23)]),[(.int .i64 0),.nils,.nils]⟩) ::
  (26,⟨3,true,24,true,(.struct [(0,3),(1,3),(2,3)]),[(.int .i64 0),(.int .i64 0),(.int .i64 0)]⟩) ::
  (27,⟨3,true,24,true,(.struct [(0,3),(1,3),(2,3)]),[(.int .i64 0),(.int .i64 0),(.int .i64 0)]⟩) ::
  (28,⟨1,false,24,true,(.slice 42),[.nils]⟩) ::
  (29,⟨1,false,24,true,(.slice 3),[.nils]⟩) ::
  (30,⟨1,false,8,true,(.int .i64),[(.int .i64 0)]⟩) ::
  (31,⟨17,true,200,true,(.struct [(0,25),(3,27),(6,27),(9,3),(10,3),(11,28),(12,3),(13,3),(14,3),(15,29),(16,30)]),[(.int .i64 0),.nils,.nils,(.int .i64 0),(.int .i64 0),(.int .i64 0),(.int .i64 0),(.int .i64 0),(.int .i64 0),(.int .i64 0),(.int .i64 0),.nils,(.int .i64 0),(.int .i64 0),(.int .i64 0),.nils,(.int .i64 0)]⟩) ::
  (32,⟨17,true,200,true,(.struct [(0,25),(3,27),(6,27),(9,3),(10,3),(11,28),(12,3),(13,3),(14,3),(15,29),(16,30)]),[(.int .i64 0),.nils,.nils,(.int .i64 0),(.int .i64 0),(.int .i64 0),(.int .i64 0),(.int .i64 0),(.int .i64 0),(.int .i64 0),(.int .i64 0),.nils,(.int .i64 0),(.int .i64 0),(.int .i64 0),.nils,(.int .i64 0)]⟩) ::
  (33,⟨1,false,8,true,.other,[(.raw .nilFunc)]⟩) ::
  (34,⟨1,false,8,true,.other,[(.raw .nilFunc)]⟩) ::
  (35,⟨1,false,8,true,.other,[(.raw .nilFunc)]⟩) ::
  (36,⟨2,true,16,true,(.struct [(0,3),(1,3)]),[(.int .i64 0),(.int .i64 0)]⟩) ::
  (37,⟨2,true,16,true,(.struct [(0,3),(1,3)]),[(.int .i64 0),(.int .i64 0)]⟩) ::
  (38,⟨1,false,24,true,(.slice 83),[.nils]⟩) ::
  (39,⟨1,false,24,true,(.slice 60),[.nils]⟩) ::
  (40,⟨1,false,24,true,(.slice 54),[.nils]⟩) ::
  (41,⟨8,true,144,true,(.struct [(0,22),(1,37),(3,38),(4,39),(5,38),(6,4),(7,40)]),[.nils,(.int .i64 0),(.int .i64 0),.nils,.nils,.nils,(.bool false),.nils]⟩) ::
  (42,⟨8,true,144,true,(.struct [(0,22),(1,37),(3,38),(4,39),(5,38),(6,4),(7,40)]),[.nils,(.int .i64 0),(.int .i64 0),.nils,.nils,.nils,(.bool false),.nils]⟩) ::
  (43,⟨1,false,24,true,(.slice 68),[.nils]⟩) ::
  (44,⟨1,false,24,true,(.slice 29),[.nils]⟩) ::
  (45,⟨2,true,48,true,(.struct [(0,43),(1,44)]),[.nils,.nils]⟩) ::
  (46,⟨2,true,48,true,(.struct [(0,43),(1,44)]),[.nils,.nils]⟩) ::
  (48,⟨1,false,8,true,.other,[(.raw .nilFunc)]⟩) ::
  (49,⟨1,false,24,true,(.slice 22),[.nils]⟩) ::
  (50,⟨1,false,8,true,.other,[(.raw .nilFunc)]⟩) ::
  (51,⟨1,false,8,true,.other,[(.raw .nilFunc)]⟩) ::
  (52,⟨1,false,8,true,(.int .u64),[(.int .u64 0)]⟩) ::
  (53,⟨3,true,24,true,(.struct [(0,30),(1,52),(2,4)]),[(.int .i64 0),(.int .u64 0),(.bool false)]⟩) ::
  (54,⟨3,true,24,true,(.struct [(0,30),(1,52),(2,4)]),[(.int .i64 0),(.int .u64 0),(.bool false)]⟩) ::
  (56,⟨1,false,8,true,.other,[(.raw .nilFunc)]⟩) ::
  (57,⟨3,true,24,true,(.struct [(0,3),(1,3),(2,52)]),[(.int .i64 0),(.int .i64 0),(.int .u64 0)]⟩) ::
  (58,⟨3,true,24,true,(.struct [(0,3),(1,3),(2,52)]),[(.int .i64 0),(.int .i64 0),(.int .u64 0)]⟩) ::
  (59,⟨8,true,64,true,(.struct [(0,3),(1,3),(2,3),(3,3),(4,52),(5,58)]),[(.int .i64 0),(.int .i64 0),(.int .i64 0),(.int .i64 0),(.int .u64 0),(.int .i64 0),(.int .i64 0),(.int .u64 0)]⟩) ::
  (60,⟨8,true,64,true,(.struct [(0,3),(1,3),(2,3),(3,3),(4,52),(5,58)]),[(.int .i64 0),(.int .i64 0),(.int .i64 0),(.int .i64 0),(.int .u64 0),(.int .i64 0),(.int .i64 0),(.int .u64 0)]⟩) ::
  (61,⟨1,false,8,true,.other,[(.raw .nilFunc)]⟩) ::
  (62,⟨1,false,8,true,.other,[(.raw .nilFunc)]⟩) ::
  (63,⟨1,false,8,true,.other,[(.raw .nilFunc)]⟩) ::
  (64,⟨1,false,8,true,.other,[(.raw .nilFunc)]⟩) ::
  (66,⟨1,false,8,true,.other,[(.raw .nilFunc)]⟩) ::
  (67,⟨4,true,48,true,(.struct [(0,58),(3,22)]),[(.int .i64 0),(.int .i64 0),(.int .u64 0),.nils]⟩) ::
  (68,⟨4,true,48,true,(.struct [(0,58),(3,22)]),[(.int .i64 0),(.int .i64 0),(.int .u64 0),.nils]⟩) ::
  (70,⟨1,false,8,true,.other,[(.raw .nilFunc)]⟩) ::
  TT1
theorem d_int {P:Program}{t:Nat}{k:IntKind}(h:P.underlying t=some (.int k):=by kernel_rfl):DescOk P t (.int k):=h
theorem d_bool {P:Program}{t:Nat}(h:P.underlying t=some .bool:=by kernel_rfl):DescOk P t .bool:=h
theorem d_struct {P:Program}{t:Nat}{fs:List (Nat×Nat)}(h:(P.underlying t).bind structFs=some fs:=by kernel_rfl):DescOk P t (.struct fs):=h
theorem d_arr {P:Program}{t n e:Nat}(h:P.underlying t=some (.array n e):=by kernel_rfl):DescOk P t (.arr n e):=h
theorem d_map {P:Program}{t k e:Nat}(h:P.underlying t=some (.map k e):=by kernel_rfl):DescOk P t (.map k e):=h
theorem d_slice {P:Program}{t e:Nat}(h:P.underlying t=some (.slice e):=by kernel_rfl):DescOk P t (.slice e):=h
def chkF:List Value->Nat->Bool
  | [],0=>true
  | .bool false :: l,n + 1=>chkF l n
  | _,_=>false
theorem chkF_eq:∀ {l:List Value} {n:Nat},chkF l n=true->l=List.replicate n (.bool false)
  | [],0,_=>rfl
  | v :: l,n + 1,h=>by
    unfold chkF at h
    split at h
    · rename_i e; cases e
    · rename_i l' n' e e2; cases e; cases e2; rw [chkF_eq h]; rfl
    · cases h
  | v :: l,0,h=>by unfold chkF at h; split at h <;> first | contradiction | cases h
  | [],n + 1,h=>by unfold chkF at h; cases h
theorem tke {P:Program}{T:Tab}{t n b:Nat}{D:TD}(d:DescOk P t D)(hT:TabOk P T)(h1:(P.info? t).map (fun i=>(i.size,i.bytes))=some (n,b):=by kernel_rfl)(h2:((P.info? t).bind (·.zero)).map (fun zv=>chkF zv.cells.toList n)=some true:=by kernel_rfl)(h4:(P.underlying t).map isAggD=some true:=by kernel_rfl)
    (e1:P.stoodInHeld t=false:=by kernel_rfl) (e2:P.eqGuardType P.depth t=false:=by kernel_rfl) (e3:(P.underlying t).map noBlank=some true:=by kernel_rfl):TabOk P ((t,⟨n,true,b,true,D,List.replicate n (.bool false)⟩) :: T):=by
  refine tabOk_cons ⟨h1,?_,by simp,h4,d,fun _=>⟨e1,e2,e3⟩,fun h=>by cases h⟩ hT
  cases hq:(P.info? t).bind (·.zero) with
  | none=>rw [hq] at h2; cases h2
  | some zv =>
    rw [hq] at h2
    have h3:=chkF_eq (Option.some.inj h2)
    simp only [Option.map_some,h3,List.map_replicate,SV.const]
theorem tka {P:Program}{T:Tab}{t c b:Nat}{D:TD}{z:List SV}(d:DescOk P t D)(hT:TabOk P T)(h1:(P.info? t).map (fun i=>(i.size,i.bytes))=some (c,b):=by kernel_rfl)(h2:((P.info? t).bind (·.zero)).map (fun zv=>zv.cells.toList.map some)=some (z.map SV.const):=by kernel_rfl)(h3:z.length=c:=by kernel_rfl)(h4:(P.underlying t).map isAggD=some false:=by kernel_rfl)(e1:P.stoodInHeld t=false:=by kernel_rfl)(e2:P.eqGuardType P.depth t=false:=by kernel_rfl)(e3:(P.underlying t).map noBlank=some true:=by kernel_rfl)(o:((P.info? t).bind (·.zero)).map Value.oneCell'=some true:=by kernel_rfl):TabOk P ((t,⟨c,false,b,true,D,z⟩) :: T):=tabOk_cons ⟨h1,h2,h3,h4,d,(fun _=>⟨e1,e2,e3⟩),(fun _=>o)⟩ hT
theorem tkb {P:Program}{T:Tab}{t c b:Nat}{D:TD}{z:List SV}(d:DescOk P t D)(hT:TabOk P T)(h1:(P.info? t).map (fun i=>(i.size,i.bytes))=some (c,b):=by kernel_rfl)(h2:((P.info? t).bind (·.zero)).map (fun zv=>zv.cells.toList.map some)=some (z.map SV.const):=by kernel_rfl)(h3:z.length=c:=by kernel_rfl)(h4:(P.underlying t).map isAggD=some true:=by kernel_rfl)(e1:P.stoodInHeld t=false:=by kernel_rfl)(e2:P.eqGuardType P.depth t=false:=by kernel_rfl)(e3:(P.underlying t).map noBlank=some true:=by kernel_rfl):TabOk P ((t,⟨c,true,b,true,D,z⟩) :: T):=tabOk_cons ⟨h1,h2,h3,h4,d,(fun _=>⟨e1,e2,e3⟩),(fun h=>nomatch h)⟩ hT
theorem tkc {P:Program}{T:Tab}{t c b:Nat}{D:TD}{z:List SV}(d:DescOk P t D)(hT:TabOk P T)(h1:(P.info? t).map (fun i=>(i.size,i.bytes))=some (c,b):=by kernel_rfl)(h2:((P.info? t).bind (·.zero)).map (fun zv=>zv.cells.toList.map some)=some (z.map SV.const):=by kernel_rfl)(h3:z.length=c:=by kernel_rfl)(h4:(P.underlying t).map isAggD=some true:=by kernel_rfl)  : TabOk P ((t,⟨c,true,b,false,D,z⟩) :: T):=tabOk_cons ⟨h1,h2,h3,h4,d,(fun h=>nomatch h),(fun h=>nomatch h)⟩ hT
theorem TT2_ok:TabOk Tryz.prog TT2:=by
  unfold TT2
  refine tka trivial ?_
  refine tka trivial ?_
  refine tka trivial ?_
  refine tka trivial ?_
  refine tka trivial ?_
  refine tka trivial ?_
  refine tka trivial ?_
  refine tka trivial ?_
  refine tka trivial ?_
  refine tka trivial ?_
  refine tka trivial ?_
  refine tka trivial ?_
  refine tka d_slice ?_
  refine tka trivial ?_
  refine tka trivial ?_
  refine tka trivial ?_
  refine tka trivial ?_
  refine tka trivial ?_
  refine tka trivial ?_
  refine tka d_int ?_
  refine tka trivial ?_
  refine tka trivial ?_
  refine tkb d_struct ?_
  refine tkb d_struct ?_
  refine tka trivial ?_
  refine tka trivial ?_
  refine tka trivial ?_
  refine tkb d_struct ?_
  refine tkb d_struct ?_
  refine tka trivial ?_
  refine tka d_int ?_
  refine tka d_int ?_
  refine tka trivial ?_
  refine tka trivial ?_
  refine tkb d_arr ?_
  refine tkc d_struct ?_
  refine tkc d_struct ?_
  refine tka d_int ?_
  refine tka d_int ?_
  refine tka d_int ?_
  refine tka trivial ?_
  refine tka trivial ?_
  refine tka d_int ?_
  refine tka d_int ?_
  refine tkc d_struct ?_
  refine tkc d_struct ?_
  refine tka trivial ?_
  exact tabOk_nil _
theorem TT1_ok:TabOk Tryz.prog TT1:=by
  unfold TT1
  refine tka trivial ?_
  refine tke d_arr ?_
  refine tke d_arr ?_
  refine tka trivial ?_
  refine tka trivial ?_
  refine tka trivial ?_
  refine tkb d_struct ?_
  refine tkb d_struct ?_
  refine tka trivial ?_
  refine tkb d_struct ?_
  refine tkb d_struct ?_
  refine tka trivial ?_
  refine tka trivial ?_
  refine tka d_map ?_
  refine tka trivial ?_
  refine tka trivial ?_
  refine tka trivial ?_
  refine tka trivial ?_
  refine tka trivial ?_
  refine tka trivial ?_
  refine tka trivial ?_
  refine tka trivial ?_
  refine tka trivial ?_
  refine tka trivial ?_
  refine tka trivial ?_
  refine tka trivial ?_
  refine tka trivial ?_
  refine tka trivial ?_
  refine tka trivial ?_
  refine tka trivial ?_
  refine tka trivial ?_
  refine tka trivial ?_
  refine tka trivial ?_
  refine tka trivial ?_
  refine tka trivial ?_
  refine tka trivial ?_
  refine tka trivial ?_
  refine tka trivial ?_
  refine tka trivial ?_
  refine tka trivial ?_
  refine tka trivial ?_
  refine tka trivial ?_
  refine tka trivial ?_
  refine tka trivial ?_
  refine tka trivial ?_
  refine tka trivial ?_
  refine tka trivial ?_
  refine tka trivial ?_
  refine tka trivial ?_
  refine tka trivial ?_
  refine tka trivial ?_
  refine tka trivial ?_
  refine tkb d_struct ?_
  refine tkb d_struct ?_
  refine tka trivial ?_
  refine tka trivial ?_
  refine tka trivial ?_
  refine tka trivial ?_
  refine tka trivial ?_
  refine tka trivial ?_
  exact TT2_ok
theorem TT_ok:TabOk Tryz.prog TT:=by
  unfold TT
  refine tka trivial ?_
  refine tka d_int ?_
  refine tka d_int ?_
  refine tka d_bool ?_
  refine tka d_int ?_
  refine tka d_int ?_
  refine tkb d_struct ?_
  refine tkb d_struct ?_
  refine tka d_int ?_
  refine tka trivial ?_
  refine tka trivial ?_
  refine tka trivial ?_
  refine tkc d_struct ?_
  refine tkc d_struct ?_
  refine tka d_int ?_
  refine tka d_slice ?_
  refine tkb d_arr ?_
  refine tkb d_struct ?_
  refine tkb d_struct ?_
  refine tkb d_struct ?_
  refine tkb d_struct ?_
  refine tka d_slice ?_
  refine tka d_slice ?_
  refine tka d_int ?_
  refine tkb d_struct ?_
  refine tkb d_struct ?_
  refine tka trivial ?_
  refine tka trivial ?_
  refine tka trivial ?_
  refine tkb d_struct ?_
  refine tkb d_struct ?_
  refine tka d_slice ?_
  refine tka d_slice ?_
  refine tka d_slice ?_
  refine tkb d_struct ?_
  refine tkb d_struct ?_
  refine tka d_slice ?_
  refine tka d_slice ?_
  refine tkb d_struct ?_
  refine tkb d_struct ?_
  refine tka trivial ?_
  refine tka d_slice ?_
  refine tka trivial ?_
  refine tka trivial ?_
  refine tka d_int ?_
  refine tkb d_struct ?_
  refine tkb d_struct ?_
  refine tka trivial ?_
  refine tkb d_struct ?_
  refine tkb d_struct ?_
  refine tkb d_struct ?_
  refine tkb d_struct ?_
  refine tka trivial ?_
  refine tka trivial ?_
  refine tka trivial ?_
  refine tka trivial ?_
  refine tka trivial ?_
  refine tkb d_struct ?_
  refine tkb d_struct ?_
  refine tka trivial ?_
  exact TT1_ok
theorem hmix:Tryz.prog.follows .mixedOrders=true:=by kernel_rfl
section
variable {rd:Option Nat} {N n0:Nat} {ops:Array Oper}
theorem re (orc:List (Nat×SV))(n:Nat){id:Nat}{s:St}(s':St)(ks:List Prop){K:XE->St->Prop}(hk:All ks)(hx:K .normal s')
    (h:xrunk TT N ops orc n 0 (s'.fr.map Prod.fst) (s'.mem.map Prod.fst) s=some (s',ks):=by kernel_rfl) (hn:ops.toList.drop (0 + n)=[]:=by kernel_rfl):XW rd Tryz.prog N n0 (.region id ops false) K s:=re_ TT_ok orc n s' ks hk hx h hn
theorem ka (orc:List (Nat×SV))(n i:Nat){s:St}(kf km:List Nat)(ps:List Pf){K:St->Prop}(hx:XOi rd Tryz.prog N n0 ops (i + n) K (stO (xrunk TT N ops orc n i kf km s) s))(h:ksO (xrunk TT N ops orc n i kf km s)=some (ps.map Pf.p):=by kernel_rfl):XOi rd Tryz.prog N n0 ops i K s:=rki_ TT_ok orc n i kf km _ (pf_all ps) hx h
theorem kb (orc:List (Nat×SV))(n:Nat){id:Nat}{y:Code}{s:St}(kf km:List Nat)(ps:List Pf){K:XE->St->Prop}(hx:XW rd Tryz.prog N n0 y K (stO (xrunk TT N ops orc n 0 kf km s) s))(h:ksO (xrunk TT N ops orc n 0 kf km s)=some (ps.map Pf.p):=by kernel_rfl)(hn:ops.toList.drop (0 + n)=[]:=by kernel_rfl):XW rd Tryz.prog N n0 (.seq (.region id ops false) y) K s:=rgi_ TT_ok orc n kf km _ (pf_all ps) hx h hn
theorem kc (orc:List (Nat×SV))(n:Nat){id:Nat}{s:St}(kf km:List Nat)(ps:List Pf){K:XE->St->Prop}(hx:K .normal (stO (xrunk TT N ops orc n 0 kf km s) s))(h:ksO (xrunk TT N ops orc n 0 kf km s)=some (ps.map Pf.p):=by kernel_rfl)(hn:ops.toList.drop (0 + n)=[]:=by kernel_rfl):XW rd Tryz.prog N n0 (.region id ops false) K s:=rei_ TT_ok orc n kf km _ (pf_all ps) hx h hn
theorem kd {mem:Mem}{nx:Nat}(orc:List (Nat×SV))(n i:Nat){fr:Fr}(ps:List Pf){K:Fr->Prop}(hx:QOi Tryz.prog N ops mem nx (i + n) K (stO (xqruni TT ops mem nx orc n i fr) fr))(h:ksO (xqruni TT ops mem nx orc n i fr)=some (ps.map Pf.p):=by kernel_rfl):QOi Tryz.prog N ops mem nx i K fr:=qri_ TT_ok orc n i _ (pf_all ps) hx h
theorem ke {sg:List (Mem×Nat)}{ws:List Nat}{bf:List (Nat×List Nat)}(orc:List (Nat×SV))(n i:Nat){fr:Fr}(ps:List Pf){K:Fr->Prop}(hx:SO Tryz.prog N ops sg ws bf (i + n) K (stO (xsrun TT ops sg ws bf orc n i fr) fr))(h:ksO (xsrun TT ops sg ws bf orc n i fr)=some (ps.map Pf.p):=by kernel_rfl):SO Tryz.prog N ops sg ws bf i K fr:=sri_ TT_ok orc n i _ (pf_all ps) hx h
theorem kA (orc:List (Nat×SV))(n i:Nat){s:St}(s':St)(ps:List Pf){K:St->Prop}(hx:XOi rd Tryz.prog N n0 ops (i + n) K s')
    (h:xrunk TT N ops orc n i (s'.fr.map Prod.fst) (s'.mem.map Prod.fst) s=some (s',ps.map Pf.p):=by kernel_rfl):XOi rd Tryz.prog N n0 ops i K s:=rk_ TT_ok orc n i s' _ (pf_all ps) hx h
theorem kB (orc:List (Nat×SV))(n:Nat){id:Nat}{y:Code}{s:St}(s':St)(ps:List Pf){K:XE->St->Prop}(hx:XW rd Tryz.prog N n0 y K s')
    (h:xrunk TT N ops orc n 0 (s'.fr.map Prod.fst) (s'.mem.map Prod.fst) s=some (s',ps.map Pf.p):=by kernel_rfl) (hn:ops.toList.drop (0 + n)=[]:=by kernel_rfl):XW rd Tryz.prog N n0 (.seq (.region id ops false) y) K s:=rg_ TT_ok orc n s' _ (pf_all ps) hx h hn
theorem kC (orc:List (Nat×SV))(n:Nat){id:Nat}{s:St}(s':St)(ps:List Pf){K:XE->St->Prop}(hx:K .normal s')
    (h:xrunk TT N ops orc n 0 (s'.fr.map Prod.fst) (s'.mem.map Prod.fst) s=some (s',ps.map Pf.p):=by kernel_rfl) (hn:ops.toList.drop (0 + n)=[]:=by kernel_rfl):XW rd Tryz.prog N n0 (.region id ops false) K s:=re_ TT_ok orc n s' _ (pf_all ps) hx h hn
end
end Go.Proofs.YtmmfpkkamgapkaaGreat.X
