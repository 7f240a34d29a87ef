/- Contracts of Go functions: what each returns,for every input that its premises name; no memory of the caller is touched. Printed by a program. -/
import Derived.Test.YtmmfpkkamgapkaaGreatXs1
import Derived.Test.YtmmfpkkamgapkaaGreatXr1a
import Derived.Test.YtmmfpkkamgapkaaGreatXr3
import Derived.Test.YtmmfpkkamgapkaaGreatXg7
namespace Go.Proofs.YtmmfpkkamgapkaaGreat.X
open Go Go.RowKit
set_option linter.unusedVariables false
set_option linter.unusedSimpArgs false
abbrev Ca6(ns:List Nd)(ss:List (List Int))(i1 i2:Int):=ndA ns ((ix (goR ns ss i1 0) i2) - 1)
abbrev Ca1(ns:List Nd)(ss:List (List Int))(i1 i2:Int):=ptL (Nd.l (Ca6 ns ss i1 i2)) (Nd.m (Ca6 ns ss i1 i2)) (Int.toNat (Nd.l (Ca6 ns ss i1 i2)))
abbrev Ca2(ns:List Nd)(h:Int):=ptL (Nd.l (ndA ns (h - 1))) (Nd.m (ndA ns (h - 1))) (Int.toNat (Nd.l (ndA ns (h - 1))))
abbrev Ca3(ns:List Nd)(ss:List (List Int))(i1 i2:Int):List SV:=[.i (Nd.t (Ca6 ns ss i1 i2)),.i (Nd.l (Ca6 ns ss i1 i2)),.u (Nd.m (Ca6 ns ss i1 i2)),.sl false 1 (m64 (Nd.f (Ca6 ns ss i1 i2)))]
abbrev Ca4(ns:List Nd)(ss:List (List Int))(i1 i2 k2:Int):=cfK (goR ns ss i1 0) (Nd.f (Ca6 ns ss i1 i2)) (Ca1 ns ss i1 i2) k2
abbrev Ca17(ns:List Nd)(ss:List (List Int)):List SV:=[.sl false 4 (List.map nodeS ns),.sl false 1 (List.map rowI ss)]
abbrev Ca5(ns:List Nd)(ss:List (List Int)):Nat×Blk:=(0,.cells (Ca17 ns ss) 46)
abbrev Ca7(ns:List Nd)(ss:List (List Int))(i1 i2:Int):Nat×Blk:=(3,.row 4 68 (List.map nodeS (caT ns (goR ns ss i1 0) i2)))
abbrev Ca8:Nat×Blk:=(1,.cells [.nils,.nils] 46)
abbrev Ca9(ns:List Nd)(ss:List (List Int))(i1 i2 k2:Int):=Nd.mk (Nd.t (Ca6 ns ss i1 i2)) (Nd.l (Ca6 ns ss i1 i2)) (Nd.m (Ca6 ns ss i1 i2)) (Ca4 ns ss i1 i2 k2)
abbrev Ca10(ns:List Nd)(ss:List (List Int))(i1:Int):Nat×SV:=(3,.sl false 1 (List.map (SV.int .i64) (goR ns ss i1 0)))
abbrev Ca11(ns:List Nd)(n:Nat)(o:List Int)(h k1:Int):=gfd ns n (o++[h]) (gpt (ndA ns (h - 1))) k1
abbrev Ca16(ns:List Nd)(h:Int):=Nd.f (ndA ns (h - 1))
abbrev Ca12(ns:List Nd)(h:Int):List SV:=[.i (Nd.t (ndA ns (h - 1))),.i (Nd.l (ndA ns (h - 1))),.u (Nd.m (ndA ns (h - 1))),.sl false 1 (m64 (Ca16 ns h))]
abbrev Ca13:Nat×Blk:=(2,.cells [.own 3,.nils] 46)
abbrev Ca14(o:List Int):=List.map (SV.int .i64) o
abbrev Ca15(ns:List Nd)(ss:List (List Int))(i1 i3 k3:Int):=piR (goR ns ss i1 0) (rowG ss i3) k3
abbrev Ca18(ns:List Nd)(ss:List (List Int))(i1 i3:Int):=List.map rowI (piS (goR ns ss i1 0) ss i3)
abbrev Ca19(ns:List Nd)(n:Nat)(o:List Int)(h:Int):=List.map (SV.int .i64) (gvis ns (n + 1) o h)
theorem Cao{p:Prop}(h:p:=by first|omega|(simp only [Ca6,Ca1,Ca2,Ca3,Ca4,Ca17,Ca5,Ca7,Ca8,Ca9,Ca10,Ca11,Ca16,Ca12,Ca13,Ca14,Ca15,Ca18,Ca19] at *;first|omega|assumption|(simp;done)|(simp;omega))):p:=h
theorem Cab5{p:Prop}(h:p:=by first | rfl | exact set_map.trans (congrArg _ (cfK_nx om om)) | (simp [cfK]; done)):p:=h
theorem Cab4{p:Prop}(h:p:=by intro y hy; simp at hy; first | (subst hy; rfl) | (rcases hy with rfl | rfl <;> rfl)):p:=h
theorem Cab3{p:Prop}(h:p:=by first | rfl | exact congrArg _ (caT_next (k:=k2) ‹GOk ns ss› om om om om) | (simp; done)):p:=h
theorem Cab2{p:Prop}(h:p:=by first | rfl | exact congrArg _ (caT_end (ss:=ss) (q:=[]) (goR_end om) om) | exact congrArg _ (piS_end (goR_end om) om)):p:=h
theorem Cab1{p:Prop}(h:p:=by first | rfl | exact congrArg _ (gv_1 om) | exact congrArg _ (gv_2 om) | exact congrArg _ (gv_3 (k:=k1) om om om)):p:=h
set_option maxHeartbeats 8000000 in
theorem gvis_ (ns:List Nd)(ss:List (List Int))(hp0:Nds ns)(hp1:(ns.length:Int) * 48<=140737488355000)(hp2:RIs ss)(hp3:(ss.length:Int) * 24<=140737488355000)(hp4:GOk ns ss)(hp5:(ns.length:Int)<=8192):∀ (n:Nat) (h:Int) (o:List Int),(Vg ns.length o)->(0<=h/\h<=(ns.length:Int))->((gfr ns.length o)<(n:Int))->Pub Tryz.prog 70 [.agg (Ca17 ns ss),.i h,.sl false 1 (Ca14 o)] (fun rv=>rv = .sl false 1 (List.map (SV.int .i64) (gvis ns n o h))):=by
 intro n
 induction n with
 | zero=>intro h o hq0 hq1 hq2; exfalso; have:=gfr_0 (N:=ns.length) (o:=o); omega
 | succ n ih =>
  intro h o hq0 hq1 hq2
  replace hq2:(gfr ns.length o)<(n:Int) + 1:=by omega
  have h0:(o.length:Int)<=(ns.length:Int):=vg_len ZZ
  have h1:I64s o:=vg_i64 ZZ om
  have h2:h=0\/(0<=(Nd.l (ndA ns (h - 1)))/\(Nd.l (ndA ns (h - 1)))<=16/\((Ca16 ns h).length:Int)=(Nd.l (ndA ns (h - 1)))/\((Ca2 ns h).length:Int)<=16):=gpl_h ‹GOk ns ss› om
  refine pub_of TT_ok Tryz.func70 rfl (by decide) nk kr<|kb [] 2 [6,3,1,2] [0] []<|xw_seq<|xw_seq<|reg<|ka [(1,.bool (h == 0))] 3 0 [12,6,3,1,2] [0] [sf (h == 0)]<|splitr 12 (x:=(h == 0)) kr (fun h3=>?_) (fun h3=>?_)
  ·
   replace h3:h=0:=eq_of_beq h3
   exact ka [] 5 3 [17,6,3,1,2] [0] [tr]<|en<|an<|ct<|kb [] 2 [6,3,1,2] [0] []<|xw_ret<|an_ret<|br (.sl false 1 (Ca14 o)) (.sl false 1 (Ca19 ns n o h)) (wk_s [(1,⟨(Ca14 o)=(Ca19 ns n o h),Cab1⟩)]) rfl
  ·
   replace h3:h≠0:=ne_of_beq_false h3
   refine ka [] 2 3 [14,13,12,6,3,1,2] [0] []<|pc (gplace o h ZZ om om) ?_
   have h4 : -1<=(pi0 o h)/\(pi0 o h)<=1000000:=pi0_b om
   refine ka [(6,.bool (decide (0<=(pi0 o h))))] 2 6 [17,6,3,1,2] [0] [sf (decide (0<=(pi0 o h))),tr]<|en<|an<|xcD (0<=(pi0 o h)) (fun h5=>?_) (fun h5=>?_)
   ·
    exact kb [] 2 [6,3,1,2] [0] []<|xw_ret<|an_ret<|br (.sl false 1 (Ca14 o)) (.sl false 1 (Ca19 ns n o h)) (wk_s [(1,⟨(Ca14 o)=(Ca19 ns n o h),Cab1⟩)]) rfl
   ·
    refine xw_skip<|an<|xw_seq<|reg<|ka [] 3 0 [21,6,3,1,2] [2,0] [⟨(∀ y∈((Ca14 o):List SV),ElemOk y)/\(false=true->1<=((Ca14 o):List SV).length/\∀ x∈([] : List SV),ElemOk x)/\(([] : List SV).length + ((Ca14 o):List SV).length) * 8<=140737488355328/\([] : List SV).length + ((Ca14 o):List SV).length<=4611686018427387904,⟨elem_map,(fun h=>by cases h),lw,lw⟩⟩]<|setr 2 (z:=1) (E:=3) (L:=(([])++((Ca14 o)))) (L':=(Ca14 o)) kr nil_app<|ka [(4,.t)] 3 3 [24,6,3,1,2] [3,0] [⟨(∀ y∈([.i h] : List SV),ElemOk y)/\(false=true->1<=([.i h] : List SV).length/\∀ x∈((Ca14 o):List SV),ElemOk x)/\(((Ca14 o):List SV).length + ([.i h] : List SV).length) * 8<=140737488355328/\((Ca14 o):List SV).length + ([.i h] : List SV).length<=4611686018427387904,⟨Cab4,(fun h=>by cases h),lw,lw⟩⟩]<|setr 3 (z:=1) (E:=3) (L:=(((Ca14 o))++([.i h]))) (L':=(List.map (SV.int .i64) (o++[h]))) kr app_one<|ka [] 1 6 [2,6,3,1] [3,0] []<|xoi_share 2 3 (z:=1) (E:=3) (xs:=(List.map (SV.int .i64) (o++[h]))) kr kr<|en<|an<|xw_seq<|reg<|ka [(3,.i (h - 1)),(4,.agg (Ca12 ns h))] 5 0 [29,2,6,3] [0] [tr,w6 (h - 1),⟨(0:Int)<=(h - 1)/\(h - 1)<((((List.map nodeS ns)).length:Nat):Int)/\((List.map nodeS ns))[((h - 1):Int).toNat]? = some (.agg (Ca12 ns h)),(ix_nd_ om lw)⟩] ?_
    have h6:(I6 (Nd.t (ndA ns (h - 1)))):=(Nds.at rq _).1
    have h7:(I6 (Nd.l (ndA ns (h - 1)))):=(Nds.at rq _).2.1
    have h8:(U6 (Nd.m (ndA ns (h - 1)))):=(Nds.at rq _).2.2.1
    have h9:U64s (Ca16 ns h):=(Nds.at rq _).2.2.2.1
    have h10:((Ca16 ns h).length:Int) * 8<=140737488355000:=(Nds.at rq _).2.2.2.2
    refine kA [] 3 5 ⟨[(7,.p 4),(2,.sl false 1 (List.map (SV.int .i64) (o++[h]))),(6,.nils),(3,.p 0)],[(4,.cells (Ca12 ns h) 68),(Ca5 ns ss)],5⟩ [tr,tr]<|en<|an<|xw_seq<|reg<|ka [] 2 0 [32,7,2,6,3] [4,0] [tr]<|pc (rhptrs (Nd.t (ndA ns (h - 1))) (Nd.l (ndA ns (h - 1))) (Nd.m (ndA ns (h - 1))) ZZ om ZZ) ?_
    have h11:I64s (Ca2 ns h):=(gpl_i64 ‹GOk ns ss› om om).1
    refine ka [] 1 3 [8,7,2,6,3] [4,0] []<|en<|an<|xw_seq<|kb [] 1 [9,8,7,2,6,3] [4,0] []<|xw_block<|xw_loop (α:={q:Int // (0<=q)/\(q<=((Ca2 ns h).length:Int))}) (fun p=>⟨[(9,.i p.1),(8,.sl false 1 (List.map (SV.int .i64) (Ca2 ns h))),(7,.p 4),(2,.sl false 1 (List.map (SV.int .i64) (gfd ns n (o++[h]) (gpt (ndA ns (h - 1))) p.1))),(6,.nils),(3,.p 0)],[(4,.cells (Ca12 ns h) 68),(Ca5 ns ss)],5⟩) (fun p=>(((Ca2 ns h).length:Int) - p.1).toNat) ⟨0,⟨om,om⟩⟩ (le_s [] [(4,⟨((List.map (SV.int .i64) (o++[h])):List SV)=(List.map (SV.int .i64) (gfd ns n (o++[h]) (gpt (ndA ns (h - 1))) 0)),(by first | rfl | exact congrArg _ (gfd_nx om om))⟩)]) ?_
    rintro ⟨k1,h12,h13⟩
    show XW _ _ _ _ _ _ ⟨[(9,.int .i64 k1),(8,.sl false 1 (List.map (SV.int .i64) (Ca2 ns h))),(7,.loc 4 0),(2,.sl false 1 (List.map (SV.int .i64) (Ca11 ns n o h k1))),(6,.nils),(3,.loc 0 0)],[(4,.cells [.int .i64 (Nd.t (ndA ns (h - 1))),.int .i64 (Nd.l (ndA ns (h - 1))),.int .u64 (Nd.m (ndA ns (h - 1))),.sl false 1 (m64 (Ca16 ns h))] 68),(Ca5 ns ss)],5⟩
    have h14:((Ca2 ns h).length:Int)<=k1\/(0<=(ix (Ca2 ns h) k1)/\(ix (Ca2 ns h) k1)<((Ca16 ns h).length:Int)/\0<=(ix (Ca16 ns h) (ix (Ca2 ns h) k1))/\(ix (Ca16 ns h) (ix (Ca2 ns h) k1))<=(ns.length:Int)):=gpl_ix ‹GOk ns ss› om om om
    have h15:Vg ns.length (Ca11 ns n o h k1):=(gfd_vg ‹GOk ns ss› ‹Vg ns.length o› om om om).1
    have h16:(gfr ns.length (Ca11 ns n o h k1))<(gfr ns.length o):=(gfd_vg ‹GOk ns ss› ‹Vg ns.length o› om om om).2
    have h17:I64s (Ca11 ns n o h k1):=vg_i64 ‹Vg ns.length (Ca11 ns n o h k1)› om
    have h18:((Ca11 ns n o h k1).length:Int)<=(ns.length:Int):=vg_len ‹Vg ns.length (Ca11 ns n o h k1)›
    refine xw_seq<|kb [(2,.i (((Ca2 ns h)).length:Int)),(3,.bool (decide (k1<(((Ca2 ns h)).length:Int))))] 4 [37,9,8,7,2,6,3] [4,0] [l6 (SV.int .i64) (Ca2 ns h),sf (decide (k1<(((Ca2 ns h)).length:Int)))]<|xcD (k1<(((Ca2 ns h)).length:Int)) (fun h19=>?_) (fun h19=>?_)
    ·
     refine xw_skip<|an<|xw_seq<|xw_block<|dregk hmix kr<|kd [(5,.i (ix (Ca2 ns h) k1))] 6 0 [tr,tr,x6 .i64 (Ca2 ns h) k1] ?_
     have h20:I6 (ix (Ca2 ns h) k1):=I64s.ix rq _
     refine kd [(7,.u (ix (Ca16 ns h) (ix (Ca2 ns h) k1)))] 2 6 [tr,x6 .u64 (Ca16 ns h) (ix (Ca2 ns h) k1)] ?_
     have h21:U6 (ix (Ca16 ns h) (ix (Ca2 ns h) k1)):=U64s.ix rq _
     exact kd [(9,.i (ix (Ca16 ns h) (ix (Ca2 ns h) k1)))] 3 8 [tr,w6 (ix (Ca16 ns h) (ix (Ca2 ns h) k1))]<|pqcall (args:=[.agg (Ca17 ns ss),.i (ix (Ca16 ns h) (ix (Ca2 ns h) k1)),.sl false 1 (List.map (SV.int .i64) (Ca11 ns n o h k1))]) (args':=[.agg (Ca17 ns ss),.i (ix (Ca16 ns h) (ix (Ca2 ns h) k1)),.sl false 1 (List.map (SV.int .i64) (Ca11 ns n o h k1))]) (d:=(some 51)) (sv:=.sl false 1 (List.map (SV.int .i64) (gvis ns n (Ca11 ns n o h k1) (ix (Ca16 ns h) (ix (Ca2 ns h) k1))))) kr (ih (ix (Ca16 ns h) (ix (Ca2 ns h) k1)) (Ca11 ns n o h k1) ZZ om om) [fi,sm ((List.map nodeS ns):List SV),fi,sm ((List.map rowI ss):List SV),sm ((ix (Ca16 ns h) (ix (Ca2 ns h) k1)):Int),fi,sm ((List.map (SV.int .i64) (Ca11 ns n o h k1)):List SV)] kr ⟨id,rfl,id,rfl,rfl,id,rfl,trivial⟩ kr<|kd [] 1 12 []<|qen<|ib<|an<|kc [(1,.i (k1 + 1))] 3 [9,2,8,7,6,3] [4,0] [w6 (k1 + 1)]<|ag ⟨(k1 + 1),⟨om,om⟩⟩ (le_s [] [(4,⟨((List.map (SV.int .i64) (gvis ns n (Ca11 ns n o h k1) (ix (Ca16 ns h) (ix (Ca2 ns h) k1)))):List SV)=(List.map (SV.int .i64) (gfd ns n (o++[h]) (gpt (ndA ns (h - 1))) (k1 + 1))),(by first | rfl | exact congrArg _ (gfd_nx om om))⟩)]) dm
    ·
     exact xw_exit<|an_exit<|ag_exit<|ib_same<|an<|kb [] 2 [6] [] []<|xw_ret<|br (.sl false 1 (List.map (SV.int .i64) (Ca11 ns n o h k1))) (.sl false 1 (Ca19 ns n o h)) (wk_s [(1,⟨(List.map (SV.int .i64) (Ca11 ns n o h k1))=(Ca19 ns n o h),(by first | rfl | exact congrArg _ (gv_1 om) | exact congrArg _ (gv_2 om) | exact congrArg _ (gv_3 (k:=k1) om om Cao))⟩)]) rfl
theorem gvisit (ns:List Nd)(ss:List (List Int))(h:Int)(o:List Int)(hp0:Nds ns)(hp1:(ns.length:Int) * 48<=140737488355000)(hp2:RIs ss)(hp3:(ss.length:Int) * 24<=140737488355000)(hp4:GOk ns ss)(hp5:(ns.length:Int)<=8192)(hq0:Vg ns.length o)(hq1:0<=h/\h<=(ns.length:Int)):Pub Tryz.prog 70 [.agg (Ca17 ns ss),.i h,.sl false 1 (Ca14 o)] (fun rv=>rv = .sl false 1 (List.map (SV.int .i64) (gvis ns fuelN o h))):=gvis_ ns ss hp0 hp1 hp2 hp3 hp4 hp5 fuelN h o hq0 hq1 (gfr_fuel om)
set_option maxHeartbeats 8000000 in
set_option maxHeartbeats 8000000 in
theorem gcanon (ns:List Nd)(ss:List (List Int))(hp0:Nds ns)(hp1:(ns.length:Int) * 48<=140737488355000)(hp2:RIs ss)(hp3:(ss.length:Int) * 24<=140737488355000)(hp4:GOk ns ss)(hp5:(ns.length:Int)<=8192):Pub Tryz.prog 39 [.agg (Ca17 ns ss)] (fun rv=>rv = .agg [.sl false 4 (List.map nodeS (caN ns ss)),.sl false 1 (List.map rowI (caS ns ss))]):=by
 refine pub_of TT_ok Tryz.func39 rfl (by decide) nk kr<|kb [] 2 [2,1] [1,0] []<|kb [] 1 [3,2,1] [1,0] []<|xw_seq<|kb [] 1 [4,3,2,1] [1,0] []<|xw_block<|xw_loop (α:={q:Int // (0<=q)/\(q<=(ss.length:Int))}) (fun p=>⟨[(4,.i p.1),(3,.sl false 1 (List.map (SV.int .i64) (goR ns ss p.1 0))),(2,.p 1),(1,.p 0)],[Ca8,(Ca5 ns ss)],2⟩) (fun p=>((ss.length:Int) - p.1).toNat) ⟨0,⟨om,om⟩⟩ (le_of [] [sm (0:Int),((List.map (SV.int .i64) (goR ns ss 0 0)):List SV)=[],fi,sm ((List.map nodeS ns):List SV),fi,sm ((List.map rowI ss):List SV)] kr ⟨rfl,rfl,id,rfl,id,rfl,trivial⟩) ?_
 rintro ⟨i1,h0,h1⟩
 show XW _ _ _ _ _ _ ⟨[(4,.int .i64 i1),(Ca10 ns ss i1),(2,.loc 1 0),(1,.loc 0 0)],[Ca8,(Ca5 ns ss)],2⟩
 have h2:Vg ns.length (goR ns ss i1 0):=goR_vg ‹GOk ns ss›
 have h3:I64s (goR ns ss i1 0):=vg_i64 ‹Vg ns.length (goR ns ss i1 0)› om
 have h4:((goR ns ss i1 0).length:Int)<=(ns.length:Int):=vg_len ‹Vg ns.length (goR ns ss i1 0)›
 refine xw_seq<|kb [(3,.i ((ss).length:Int)),(4,.bool (decide (i1<((ss).length:Int))))] 5 [19,4,3,2,1] [1,0] [tr,l6 rowI ss,sf (decide (i1<((ss).length:Int)))]<|xcD (i1<((ss).length:Int)) (fun h5=>?_) (fun h5=>?_)
 ·
  refine xw_skip<|an<|xw_seq<|xw_block<|kb [] 1 [5,4,3,2,1] [1,0] []<|xw_block<|xw_loop (α:={q:Int // (0<=q)/\(q<=(((rowG ss i1)).length:Int))}) (fun p=>⟨[(5,.i p.1),(4,.i i1),(3,.sl false 1 (List.map (SV.int .i64) (goR ns ss i1 p.1))),(2,.p 1),(1,.p 0)],[Ca8,(Ca5 ns ss)],2⟩) (fun p=>((((rowG ss i1)).length:Int) - p.1).toNat) ⟨0,⟨om,om⟩⟩ (le_s []) ?_
  rintro ⟨k1,h6,h7⟩
  show XW _ _ _ _ _ _ ⟨[(5,.int .i64 k1),(4,.int .i64 i1),(3,.sl false 1 (List.map (SV.int .i64) (goR ns ss i1 k1))),(2,.loc 1 0),(1,.loc 0 0)],[Ca8,(Ca5 ns ss)],2⟩
  have h8:Vg ns.length (goR ns ss i1 k1):=goR_vg ‹GOk ns ss›
  have h9:(ss.length:Int)<=i1\/(((rowG ss i1)).length:Int)<=k1\/(0<=(ix (rowG ss i1) k1)/\(ix (rowG ss i1) k1)<=(ns.length:Int)):=goR_h ‹GOk ns ss› om om
  refine xw_seq<|xw_seq<|reg<|ka [(4,.sl false 1 (List.map (SV.int .i64) (rowG ss i1)))] 5 0 [26,22,5,4,3,2,1] [1,0] [tr,⟨(0:Int)<=i1/\i1<((((List.map rowI ss)).length:Nat):Int)/\((List.map rowI ss))[(i1:Int).toNat]? = some (.sl false 1 (List.map (SV.int .i64) (rowG ss i1))),(ix_ri om lw)⟩] ?_
  have h10:I64s (rowG ss i1):=(RIs.at rq _).1
  have h11:((rowG ss i1).length:Int) * 8<=140737488355000:=(RIs.at rq _).2
  refine ka [(6,.i (((rowG ss i1)).length:Int)),(7,.bool (decide (k1<(((rowG ss i1)).length:Int))))] 3 5 [29,5,4,3,2,1] [1,0] [tr,l6 (SV.int .i64) (rowG ss i1),sf (decide (k1<(((rowG ss i1)).length:Int)))]<|en<|an<|xcD (k1<(((rowG ss i1)).length:Int)) (fun h12=>?_) (fun h12=>?_)
  ·
   refine xw_skip<|an<|xw_seq<|xw_block<|dregk hmix kr<|kd [(4,.sl false 1 (List.map (SV.int .i64) (rowG ss i1)))] 5 0 [tr,tr,⟨(0:Int)<=i1/\i1<((((List.map rowI ss)).length:Nat):Int)/\((List.map rowI ss))[(i1:Int).toNat]? = some (.sl false 1 (List.map (SV.int .i64) (rowG ss i1))),(ix_ri om lw)⟩] ?_
   have h13:I64s (rowG ss i1):=(RIs.at rq _).1
   have h14:((rowG ss i1).length:Int) * 8<=140737488355000:=(RIs.at rq _).2
   refine kd [(7,.i (ix (rowG ss i1) k1))] 3 5 [tr,x6 .i64 (rowG ss i1) k1] ?_
   have h15:I6 (ix (rowG ss i1) k1):=I64s.ix rq _
   exact kd [] 2 8 [tr]<|qc (gvisit ns ss (ix (rowG ss i1) k1) (goR ns ss i1 k1) ZZ om ZZ om ZZ ZZ ZZ om)<|kd [] 1 11 []<|qen<|ib<|an<|kc [(1,.i (k1 + 1))] 3 [5,3,4,2,1] [1,0] [w6 (k1 + 1)]<|ag ⟨(k1 + 1),⟨om,om⟩⟩ (le_s [] [(3,⟨((List.map (SV.int .i64) (gvis ns fuelN (goR ns ss i1 k1) (ix (rowG ss i1) k1))):List SV)=(List.map (SV.int .i64) (goR ns ss i1 (k1 + 1))),(by first | rfl | exact congrArg _ (goR_next om om))⟩)]) dm
  ·
   exact xw_exit<|an_exit<|ag_exit<|ib_same<|ib<|an<|kc [(1,.i (i1 + 1))] 3 [4,3,2,1] [1,0] [w6 (i1 + 1)]<|ag ⟨(i1 + 1),⟨om,om⟩⟩ (le_s [] [(2,⟨((List.map (SV.int .i64) (goR ns ss i1 k1)):List SV)=(List.map (SV.int .i64) (goR ns ss (i1 + 1) 0)),(by first | rfl | exact congrArg _ (goR_row om om om))⟩)]) dm
 ·
  refine xw_exit<|an_exit<|ag_exit<|ib_same<|an<|kb [] 3 [6,3,2,1] [2,1,0] [tr]<|xw_seq<|kb [] 1 [7,6,3,2,1] [2,1,0] []<|xw_block<|xw_nilcell 2 0 4 68 46 (l:=[.nils,.nils]) kr kr<|xw_loop (α:={q:Int // (0<=q)/\(q<=((goR ns ss i1 0).length:Int))}) (fun p=>⟨[(7,.i p.1),(6,.p 2),(Ca10 ns ss i1),(2,.p 1),(1,.p 0)],[(3,.row 4 68 (List.map nodeS (caT ns (goR ns ss i1 0) p.1))),Ca13,Ca8,(Ca5 ns ss)],4⟩) (fun p=>(((goR ns ss i1 0).length:Int) - p.1).toNat) ⟨0,⟨om,om⟩⟩ (le_s [] [(3,⟨((List.map nodeS []):List SV)=(List.map nodeS (caT ns (goR ns ss i1 0) 0)),Cab3⟩)]) ?_
  rintro ⟨i2,h6,h7⟩
  show XW _ _ _ _ _ _ ⟨[(7,.int .i64 i2),(6,.loc 2 0),(Ca10 ns ss i1),(2,.loc 1 0),(1,.loc 0 0)],[(Ca7 ns ss i1 i2),Ca13,Ca8,(Ca5 ns ss)],4⟩
  have h8:((goR ns ss i1 0).length:Int)<=i2\/(1<=(ix (goR ns ss i1 0) i2)/\(ix (goR ns ss i1 0) i2)<=(ns.length:Int)):=gord_ix ‹GOk ns ss› (goR_end om) om
  have h9:((goR ns ss i1 0).length:Int)<=i2\/(0<=(Nd.l (Ca6 ns ss i1 i2))/\(Nd.l (Ca6 ns ss i1 i2))<=16/\((Nd.f (Ca6 ns ss i1 i2)).length:Int)=(Nd.l (Ca6 ns ss i1 i2))/\((Ca1 ns ss i1 i2).length:Int)<=16):=(if e:((goR ns ss i1 0).length:Int)<=i2 then .inl e else .inr ((gpl_h ‹GOk ns ss› om).resolve_left om))
  have h10:((caT ns (goR ns ss i1 0) i2).length:Int)<=((goR ns ss i1 0).length:Int):=caT_len om
  refine xw_seq<|kb [(2,.i (((goR ns ss i1 0)).length:Int)),(3,.bool (decide (i2<(((goR ns ss i1 0)).length:Int))))] 4 [47,7,6,3,2,1] [3,2,1,0] [l6 (SV.int .i64) (goR ns ss i1 0),sf (decide (i2<(((goR ns ss i1 0)).length:Int)))]<|xcD (i2<(((goR ns ss i1 0)).length:Int)) (fun h11=>?_) (fun h11=>?_)
  ·
   refine xw_skip<|an<|xw_seq<|xw_block<|xw_seq<|sreg hmix [([(Ca7 ns ss i1 i2),Ca13,Ca8,(Ca5 ns ss)],4),([(4,.cells [.i 0,.i 0,.u 0,.nils] 68),(Ca7 ns ss i1 i2),Ca13,Ca8,(Ca5 ns ss)],5),([(4,.cells (Ca3 ns ss i1 i2) 68),(Ca7 ns ss i1 i2),Ca13,Ca8,(Ca5 ns ss)],5)] [9,10] [(1,[0]),(4,[2,3]),(5,[2,3,4]),(6,[2,3,4,5]),(7,[0,1,2,3,4,5,6]),(8,[0,1,2,3,4,5,6,7]),(10,[0,1,2,3,4,5,6,7,8,9])] kr kr kr kr kr<|ke [(4,.i (ix (goR ns ss i1 0) i2))] 5 0 [tr,tr,sf (SV.sl false 4 (List.map nodeS ns)),tr,tr,tr,x6 .i64 (goR ns ss i1 0) i2,sf (SV.elt (.i (ix (goR ns ss i1 0) i2))),x6 .i64 (goR ns ss i1 0) i2] ?_
   have h12:I6 (ix (goR ns ss i1 0) i2):=I64s.ix rq _
   refine ke [(6,.i ((ix (goR ns ss i1 0) i2) - 1)),(7,.agg (Ca3 ns ss i1 i2))] 3 5 [tr,sf (SV.int .i64 (ix (goR ns ss i1 0) i2)),tr,w6 ((ix (goR ns ss i1 0) i2) - 1),⟨(0:Int)<=((ix (goR ns ss i1 0) i2) - 1)/\((ix (goR ns ss i1 0) i2) - 1)<((((List.map nodeS ns)).length:Nat):Int)/\((List.map nodeS ns))[(((ix (goR ns ss i1 0) i2) - 1):Int).toNat]? = some (.agg (Ca3 ns ss i1 i2)),(ix_nd_ om lw)⟩,sf (SV.elt (.agg (Ca3 ns ss i1 i2))),⟨(0:Int)<=((ix (goR ns ss i1 0) i2) - 1)/\((ix (goR ns ss i1 0) i2) - 1)<((((List.map nodeS ns)).length:Nat):Int)/\((List.map nodeS ns))[(((ix (goR ns ss i1 0) i2) - 1):Int).toNat]? = some (.agg (Ca3 ns ss i1 i2)),(ix_nd_ om lw)⟩] ?_
   have h13:(I6 (Nd.t (Ca6 ns ss i1 i2))):=(Nds.at rq _).1
   have h14:(I6 (Nd.l (Ca6 ns ss i1 i2))):=(Nds.at rq _).2.1
   have h15:(U6 (Nd.m (Ca6 ns ss i1 i2))):=(Nds.at rq _).2.2.1
   have h16:U64s (Nd.f (Ca6 ns ss i1 i2)):=(Nds.at rq _).2.2.2.1
   have h17:((Nd.f (Ca6 ns ss i1 i2)).length:Int) * 8<=140737488355000:=(Nds.at rq _).2.2.2.2
   refine ke [] 3 8 [tr,sf (SV.agg (Ca3 ns ss i1 i2)),tr,tr,sf ([(4,.cells [.i 0,.i 0,.u 0,.nils] 68),(Ca7 ns ss i1 i2),Ca13,Ca8,(Ca5 ns ss)] : Mem),sf (5:Nat),tr,sf ([(4,.cells (Ca3 ns ss i1 i2) 68),(Ca7 ns ss i1 i2),Ca13,Ca8,(Ca5 ns ss)] : Mem),sf (5:Nat)]<|sen<|an<|xw_seq<|reg<|ka [] 4 0 [62,8,7,6,3,2,1] [6,4,3,2,1,0] [tr,⟨(∀ y∈((m64 (Nd.f (Ca6 ns ss i1 i2))):List SV),ElemOk y)/\(false=true->1<=((m64 (Nd.f (Ca6 ns ss i1 i2))):List SV).length/\∀ x∈([] : List SV),ElemOk x)/\(([] : List SV).length + ((m64 (Nd.f (Ca6 ns ss i1 i2))):List SV).length) * 8<=140737488355328/\([] : List SV).length + ((m64 (Nd.f (Ca6 ns ss i1 i2))):List SV).length<=4611686018427387904,⟨elem_map,(fun h=>by cases h),lw,lw⟩⟩]<|setr 6 (z:=1) (E:=52) (L:=(([])++((m64 (Nd.f (Ca6 ns ss i1 i2)))))) (L':=(m64 (Nd.f (Ca6 ns ss i1 i2)))) kr nil_app<|ka [] 1 4 [9,8,7,6,3,2,1] [6,4,3,2,1,0] []<|en<|an<|xw_seq<|reg<|ka [] 2 0 [64,9,8,7,6,3,2,1] [6,4,3,2,1,0] [tr]<|pc (rhptrs (Nd.t (Ca6 ns ss i1 i2)) (Nd.l (Ca6 ns ss i1 i2)) (Nd.m (Ca6 ns ss i1 i2)) ZZ om ZZ) ?_
   have h18:I64s (Ca1 ns ss i1 i2):=(gpl_i64 ‹GOk ns ss› om om).1
   refine ka [] 1 3 [10,9,8,7,6,3,2,1] [6,4,3,2,1,0] []<|en<|an<|xw_seq<|kB [] 1 ⟨[(11,.i 0),(10,.sl false 1 (List.map (SV.int .i64) (Ca1 ns ss i1 i2))),(9,.own 6),(8,.p 4),(7,.i i2),(6,.p 2),(Ca10 ns ss i1),(2,.p 1),(1,.p 0)],[(6,.row 1 52 (m64 (Nd.f (Ca6 ns ss i1 i2)))),(4,.cells (Ca3 ns ss i1 i2) 68),(Ca7 ns ss i1 i2),Ca13,Ca8,(Ca5 ns ss)],7⟩ []<|xw_block<|xw_loop (α:={q:Int // (0<=q)/\(q<=((Ca1 ns ss i1 i2).length:Int))}) (fun p=>⟨[(11,.i p.1),(10,.sl false 1 (List.map (SV.int .i64) (Ca1 ns ss i1 i2))),(9,.own 6),(8,.p 4),(7,.i i2),(6,.p 2),(Ca10 ns ss i1),(2,.p 1),(1,.p 0)],[(6,.row 1 52 (m64 (cfK (goR ns ss i1 0) (Nd.f (Ca6 ns ss i1 i2)) (Ca1 ns ss i1 i2) p.1))),(4,.cells (Ca3 ns ss i1 i2) 68),(Ca7 ns ss i1 i2),Ca13,Ca8,(Ca5 ns ss)],7⟩) (fun p=>(((Ca1 ns ss i1 i2).length:Int) - p.1).toNat) ⟨0,⟨om,om⟩⟩ (le_s [] [(6,⟨((m64 (Nd.f (Ca6 ns ss i1 i2))):List SV)=(m64 (cfK (goR ns ss i1 0) (Nd.f (Ca6 ns ss i1 i2)) (Ca1 ns ss i1 i2) 0)),Cab5⟩)]) ?_
   rintro ⟨k2,h19,h20⟩
   show XW _ _ _ _ _ _ ⟨[(11,.int .i64 k2),(10,.sl false 1 (List.map (SV.int .i64) (Ca1 ns ss i1 i2))),(9,.own 6),(8,.loc 4 0),(7,.int .i64 i2),(6,.loc 2 0),(Ca10 ns ss i1),(2,.loc 1 0),(1,.loc 0 0)],[(6,.row 1 52 (m64 (Ca4 ns ss i1 i2 k2))),(4,.cells [.int .i64 (Nd.t (Ca6 ns ss i1 i2)),.int .i64 (Nd.l (Ca6 ns ss i1 i2)),.int .u64 (Nd.m (Ca6 ns ss i1 i2)),.sl false 1 (m64 (Nd.f (Ca6 ns ss i1 i2)))] 68),(Ca7 ns ss i1 i2),Ca13,Ca8,(Ca5 ns ss)],7⟩
   have h21:((Ca1 ns ss i1 i2).length:Int)<=k2\/(0<=(ix (Ca1 ns ss i1 i2) k2)/\(ix (Ca1 ns ss i1 i2) k2)<((Nd.f (Ca6 ns ss i1 i2)).length:Int)/\0<=(ix (Nd.f (Ca6 ns ss i1 i2)) (ix (Ca1 ns ss i1 i2) k2))/\(ix (Nd.f (Ca6 ns ss i1 i2)) (ix (Ca1 ns ss i1 i2) k2))<=(ns.length:Int)):=gpl_ix ‹GOk ns ss› om om om
   have h22:((Ca1 ns ss i1 i2).length:Int)<=k2\/(ix (Ca4 ns ss i1 i2 k2) (ix (Ca1 ns ss i1 i2) k2))=(ix (Nd.f (Ca6 ns ss i1 i2)) (ix (Ca1 ns ss i1 i2) k2)):=cfK_ix ‹GOk ns ss› om om om
   have h23:((Ca4 ns ss i1 i2 k2).length:Int)=((Nd.f (Ca6 ns ss i1 i2)).length:Int):=cfK_len
   have h24:U64s (Ca4 ns ss i1 i2 k2):=cfK_u64 ZZ om
   refine xw_seq<|kb [(2,.i (((Ca1 ns ss i1 i2)).length:Int)),(3,.bool (decide (k2<(((Ca1 ns ss i1 i2)).length:Int))))] 4 [69,11,10,9,8,7,6,3,2,1] [6,4,3,2,1,0] [l6 (SV.int .i64) (Ca1 ns ss i1 i2),sf (decide (k2<(((Ca1 ns ss i1 i2)).length:Int)))]<|xcD (k2<(((Ca1 ns ss i1 i2)).length:Int)) (fun h25=>?_) (fun h25=>?_)
   ·
    refine xw_skip<|an<|xw_seq<|xw_block<|sreg hmix [([(6,.row 1 52 (m64 (Ca4 ns ss i1 i2 k2))),(4,.cells (Ca3 ns ss i1 i2) 68),(Ca7 ns ss i1 i2),Ca13,Ca8,(Ca5 ns ss)],7),([(6,.row 1 52 (((m64 (Ca4 ns ss i1 i2 k2))).set (((ix (Ca1 ns ss i1 i2) k2):Int).toNat) (.u ((pi0 (goR ns ss i1 0) (ix (Ca4 ns ss i1 i2 k2) (ix (Ca1 ns ss i1 i2) k2))) + 1)))),(4,.cells (Ca3 ns ss i1 i2) 68),(Ca7 ns ss i1 i2),Ca13,Ca8,(Ca5 ns ss)],7)] [18] [(3,[1,2]),(4,[1,2,3]),(9,[7,8]),(10,[7,8,9]),(11,[6,7,8,9,10]),(12,[6,7,8,9,10,11]),(13,[6,7,8,9,10,11,12]),(14,[5,6,7,8,9,10,11,12,13]),(15,[5,6,7,8,9,10,11,12,13,14]),(16,[5,6,7,8,9,10,11,12,13,14,15]),(17,[0,1,2,3,4,5,6,7,8,9,10,11,12,13,14,15,16]),(18,[0,1,2,3,4,5,6,7,8,9,10,11,12,13,14,15,16,17])] kr kr kr kr kr<|ke [(3,.i (ix (Ca1 ns ss i1 i2) k2))] 4 0 [tr,tr,tr,x6 .i64 (Ca1 ns ss i1 i2) k2] ?_
    have h26:I6 (ix (Ca1 ns ss i1 i2) k2):=I64s.ix rq _
    refine ke [(9,.i (ix (Ca1 ns ss i1 i2) k2))] 6 4 [tr,tr,tr,tr,tr,x6 .i64 (Ca1 ns ss i1 i2) k2] ?_
    have h27:I6 (ix (Ca1 ns ss i1 i2) k2):=I64s.ix rq _
    refine ke [(12,.u (ix (Ca4 ns ss i1 i2 k2) (ix (Ca1 ns ss i1 i2) k2)))] 3 10 [tr,⟨(0:Int)<=(ix (Ca1 ns ss i1 i2) k2)/\(ix (Ca1 ns ss i1 i2) k2)<((((m64 (Ca4 ns ss i1 i2 k2))).length:Nat):Int),⟨om,lw⟩⟩,⟨((m64 (Ca4 ns ss i1 i2 k2)))[((ix (Ca1 ns ss i1 i2) k2):Int).toNat]? = some (.u (ix (Ca4 ns ss i1 i2 k2) (ix (Ca1 ns ss i1 i2) k2))),((ix_ok om lw).2.2)⟩] ?_
    have h28:U6 (ix (Ca4 ns ss i1 i2 k2) (ix (Ca1 ns ss i1 i2) k2)):=U64s.ix rq _
    refine ke [(13,.i (ix (Ca4 ns ss i1 i2 k2) (ix (Ca1 ns ss i1 i2) k2)))] 1 13 [w6 (ix (Ca4 ns ss i1 i2 k2) (ix (Ca1 ns ss i1 i2) k2))]<|sc (gplace (goR ns ss i1 0) (ix (Ca4 ns ss i1 i2 k2) (ix (Ca1 ns ss i1 i2) k2)) ZZ om om) ?_
    have h29 : -1<=(pi0 (goR ns ss i1 0) (ix (Ca4 ns ss i1 i2 k2) (ix (Ca1 ns ss i1 i2) k2)))/\(pi0 (goR ns ss i1 0) (ix (Ca4 ns ss i1 i2 k2) (ix (Ca1 ns ss i1 i2) k2)))<=1000000:=pi0_b om
    exact ke [(15,.i ((pi0 (goR ns ss i1 0) (ix (Ca4 ns ss i1 i2 k2) (ix (Ca1 ns ss i1 i2) k2))) + 1)),(16,.i ((pi0 (goR ns ss i1 0) (ix (Ca4 ns ss i1 i2 k2) (ix (Ca1 ns ss i1 i2) k2))) + 1))] 4 15 [w6 ((pi0 (goR ns ss i1 0) (ix (Ca4 ns ss i1 i2 k2) (ix (Ca1 ns ss i1 i2) k2))) + 1),w7 ((pi0 (goR ns ss i1 0) (ix (Ca4 ns ss i1 i2 k2) (ix (Ca1 ns ss i1 i2) k2))) + 1),⟨(0:Int)<=(ix (Ca1 ns ss i1 i2) k2)/\(ix (Ca1 ns ss i1 i2) k2)<((((m64 (Ca4 ns ss i1 i2 k2))).length:Nat):Int),⟨om,lw⟩⟩,⟨(((ix (Ca1 ns ss i1 i2) k2):Int).toNat)<((m64 (Ca4 ns ss i1 i2 k2))).length,lw⟩,sf ([(6,.row 1 52 (((m64 (Ca4 ns ss i1 i2 k2))).set (((ix (Ca1 ns ss i1 i2) k2):Int).toNat) (.u ((pi0 (goR ns ss i1 0) (ix (Ca4 ns ss i1 i2 k2) (ix (Ca1 ns ss i1 i2) k2))) + 1)))),(4,.cells (Ca3 ns ss i1 i2) 68),(Ca7 ns ss i1 i2),Ca13,Ca8,(Ca5 ns ss)] : Mem),sf (7:Nat)]<|sen<|ib<|an<|kc [(1,.i (k2 + 1))] 3 [11,10,9,8,7,6,3,2,1] [6,4,3,2,1,0] [w6 (k2 + 1)]<|ag ⟨(k2 + 1),⟨om,om⟩⟩ (le_s [] [(6,⟨((((m64 (Ca4 ns ss i1 i2 k2))).set (((ix (Ca1 ns ss i1 i2) k2):Int).toNat) (.u ((pi0 (goR ns ss i1 0) (ix (Ca4 ns ss i1 i2 k2) (ix (Ca1 ns ss i1 i2) k2))) + 1))):List SV)=(m64 (cfK (goR ns ss i1 0) (Nd.f (Ca6 ns ss i1 i2)) (Ca1 ns ss i1 i2) (k2 + 1))),Cab5⟩)]) dm
   ·
    exact xw_exit<|an_exit<|ag_exit<|ib_same<|an<|reg<|xoi_share 9 6 (z:=1) (E:=52) (xs:=(m64 (Ca4 ns ss i1 i2 k2))) kr kr<|ka [(6,.t)] 8 0 [97,7,6,3,2,1] [7,2,1,0] [tr,tr,⟨(∀ y∈((List.map nodeS [(Ca9 ns ss i1 i2 k2)]):List SV),ElemOk y)/\(false=true->1<=((List.map nodeS [(Ca9 ns ss i1 i2 k2)]):List SV).length/\∀ x∈((List.map nodeS (caT ns (goR ns ss i1 0) i2)):List SV),ElemOk x)/\(((List.map nodeS (caT ns (goR ns ss i1 0) i2)):List SV).length + ((List.map nodeS [(Ca9 ns ss i1 i2 k2)]):List SV).length) * 48<=140737488355328/\((List.map nodeS (caT ns (goR ns ss i1 0) i2)):List SV).length + ((List.map nodeS [(Ca9 ns ss i1 i2 k2)]):List SV).length<=4611686018427387904,⟨elem_nd,(fun h=>by cases h),lw,lw⟩⟩]<|setr 7 (z:=4) (E:=68) (L:=(((List.map nodeS (caT ns (goR ns ss i1 0) i2)))++((List.map nodeS [(Ca9 ns ss i1 i2 k2)])))) (L':=(List.map nodeS ((caT ns (goR ns ss i1 0) i2)++[(Ca9 ns ss i1 i2 k2)]))) kr mapf_app<|ka [] 2 8 [7,6,3,2,1] [7,2,1,0] [tr]<|en<|ib<|an<|kc [(1,.i (i2 + 1))] 3 [7,6,3,2,1] [7,2,1,0] [w6 (i2 + 1)]<|ag ⟨(i2 + 1),⟨om,om⟩⟩ (le_s [(3,7)] [(3,⟨((List.map nodeS ((caT ns (goR ns ss i1 0) i2)++[(Ca9 ns ss i1 i2 k2)])):List SV)=(List.map nodeS (caT ns (goR ns ss i1 0) (i2 + 1))),(by first | rfl | exact congrArg _ (caT_next (k:=k2) ‹GOk ns ss› Cao Cao Cao Cao) | (simp; done))⟩)]) dm
  ·
   refine xw_exit<|an_exit<|ag_exit<|ib_same<|an<|xw_seq<|kb [] 1 [12,6,3,2,1] [3,2,1,0] []<|xw_block<|xw_nilcell 2 1 1 29 46 (l:=[.own 3,.nils]) kr kr<|xw_loop (α:={q:Int // (0<=q)/\(q<=(ss.length:Int))}) (fun p=>⟨[(12,.i p.1),(6,.p 2),(Ca10 ns ss i1),(2,.p 1),(1,.p 0)],[(4,.row 1 29 (List.map rowI (piS (goR ns ss i1 0) ss p.1))),(Ca7 ns ss i1 i2),(2,.cells [.own 3,.own 4] 46),Ca8,(Ca5 ns ss)],5⟩) (fun p=>((ss.length:Int) - p.1).toNat) ⟨0,⟨om,om⟩⟩ (le_s [] [(3,⟨((List.map rowI []):List SV)=(List.map rowI (piS (goR ns ss i1 0) ss 0)),(by first | rfl | exact congrArg _ (piS_next om om om) | (simp; done))⟩)]) ?_
   rintro ⟨i3,h12,h13⟩
   show XW _ _ _ _ _ _ ⟨[(12,.int .i64 i3),(6,.loc 2 0),(Ca10 ns ss i1),(2,.loc 1 0),(1,.loc 0 0)],[(4,.row 1 29 (Ca18 ns ss i1 i3)),(Ca7 ns ss i1 i2),(2,.cells [.own 3,.own 4] 46),Ca8,(Ca5 ns ss)],5⟩
   have h14:((piS (goR ns ss i1 0) ss i3).length:Int)<=(ss.length:Int):=piS_len om
   refine xw_seq<|kb [(3,.i ((ss).length:Int)),(4,.bool (decide (i3<((ss).length:Int))))] 5 [103,12,6,3,2,1] [4,3,2,1,0] [tr,l6 rowI ss,sf (decide (i3<((ss).length:Int)))]<|xcD (i3<((ss).length:Int)) (fun h15=>?_) (fun h15=>?_)
   ·
    refine xw_skip<|an<|xw_seq<|xw_block<|kb [] 1 [13,12,6,3,2,1] [4,3,2,1,0] []<|xw_seq<|kb [] 1 [14,13,12,6,3,2,1] [4,3,2,1,0] []<|xw_block<|xw_nilrow 13 1 3 kr<|xw_loop (α:={q:Int // (0<=q)/\(q<=(((rowG ss i3)).length:Int))}) (fun p=>⟨[(13,.own 5),(14,.i p.1),(12,.i i3),(6,.p 2),(Ca10 ns ss i1),(2,.p 1),(1,.p 0)],[(5,.row 1 3 (List.map (SV.int .i64) (piR (goR ns ss i1 0) (rowG ss i3) p.1))),(4,.row 1 29 (Ca18 ns ss i1 i3)),(Ca7 ns ss i1 i2),(2,.cells [.own 3,.own 4] 46),Ca8,(Ca5 ns ss)],6⟩) (fun p=>((((rowG ss i3)).length:Int) - p.1).toNat) ⟨0,⟨om,om⟩⟩ (le_s [] [(4,⟨((m64 []):List SV)=(List.map (SV.int .i64) (piR (goR ns ss i1 0) (rowG ss i3) 0)),(by first | rfl | exact congrArg _ (piR_next om om) | (simp; done))⟩)]) ?_
    rintro ⟨k3,h16,h17⟩
    show XW _ _ _ _ _ _ ⟨[(13,.own 5),(14,.int .i64 k3),(12,.int .i64 i3),(6,.loc 2 0),(Ca10 ns ss i1),(2,.loc 1 0),(1,.loc 0 0)],[(5,.row 1 3 (List.map (SV.int .i64) (Ca15 ns ss i1 i3 k3))),(4,.row 1 29 (Ca18 ns ss i1 i3)),(Ca7 ns ss i1 i2),(2,.cells [.own 3,.own 4] 46),Ca8,(Ca5 ns ss)],6⟩
    have h18:((Ca15 ns ss i1 i3 k3).length:Int)<=(((rowG ss i3)).length:Int):=piR_len om
    refine xw_seq<|xw_seq<|reg<|ka [(4,.sl false 1 (List.map (SV.int .i64) (rowG ss i3)))] 5 0 [110,106,13,14,12,6,3,2,1] [5,4,3,2,1,0] [tr,⟨(0:Int)<=i3/\i3<((((List.map rowI ss)).length:Nat):Int)/\((List.map rowI ss))[(i3:Int).toNat]? = some (.sl false 1 (List.map (SV.int .i64) (rowG ss i3))),(ix_ri om lw)⟩] ?_
    have h19:I64s (rowG ss i3):=(RIs.at rq _).1
    have h20:((rowG ss i3).length:Int) * 8<=140737488355000:=(RIs.at rq _).2
    refine ka [(6,.i (((rowG ss i3)).length:Int)),(7,.bool (decide (k3<(((rowG ss i3)).length:Int))))] 3 5 [113,13,14,12,6,3,2,1] [5,4,3,2,1,0] [tr,l6 (SV.int .i64) (rowG ss i3),sf (decide (k3<(((rowG ss i3)).length:Int)))]<|en<|an<|xcD (k3<(((rowG ss i3)).length:Int)) (fun h21=>?_) (fun h21=>?_)
    ·
     refine xw_skip<|an<|xw_seq<|xw_block<|reg<|ka [(5,.sl false 1 (List.map (SV.int .i64) (rowG ss i3)))] 6 0 [121,117,116,13,14,12,6,3,2,1] [5,4,3,2,1,0] [tr,⟨(0:Int)<=i3/\i3<((((List.map rowI ss)).length:Nat):Int)/\((List.map rowI ss))[(i3:Int).toNat]? = some (.sl false 1 (List.map (SV.int .i64) (rowG ss i3))),(ix_ri om lw)⟩] ?_
     have h22:I64s (rowG ss i3):=(RIs.at rq _).1
     have h23:((rowG ss i3).length:Int) * 8<=140737488355000:=(RIs.at rq _).2
     refine ka [(8,.i (ix (rowG ss i3) k3))] 3 6 [124,117,116,13,14,12,6,3,2,1] [5,4,3,2,1,0] [tr,x6 .i64 (rowG ss i3) k3] ?_
     have h24:I6 (ix (rowG ss i3) k3):=I64s.ix rq _
     refine ka [] 1 9 [125,117,116,13,14,12,6,3,2,1] [5,4,3,2,1,0] [tr]<|pc (gplace (goR ns ss i1 0) (ix (rowG ss i3) k3) ZZ om ZZ) ?_
     have h25 : -1<=(pi0 (goR ns ss i1 0) (ix (rowG ss i3) k3))/\(pi0 (goR ns ss i1 0) (ix (rowG ss i3) k3))<=1000000:=pi0_b om
     exact ka [(11,.i ((pi0 (goR ns ss i1 0) (ix (rowG ss i3) k3)) + 1)),(12,.t)] 3 11 [129,13,14,12,6,3,2,1] [6,4,3,2,1,0] [w6 ((pi0 (goR ns ss i1 0) (ix (rowG ss i3) k3)) + 1),⟨(∀ y∈([.i ((pi0 (goR ns ss i1 0) (ix (rowG ss i3) k3)) + 1)] : List SV),ElemOk y)/\(false=true->1<=([.i ((pi0 (goR ns ss i1 0) (ix (rowG ss i3) k3)) + 1)] : List SV).length/\∀ x∈((List.map (SV.int .i64) (Ca15 ns ss i1 i3 k3)):List SV),ElemOk x)/\(((List.map (SV.int .i64) (Ca15 ns ss i1 i3 k3)):List SV).length + ([.i ((pi0 (goR ns ss i1 0) (ix (rowG ss i3) k3)) + 1)] : List SV).length) * 8<=140737488355328/\((List.map (SV.int .i64) (Ca15 ns ss i1 i3 k3)):List SV).length + ([.i ((pi0 (goR ns ss i1 0) (ix (rowG ss i3) k3)) + 1)] : List SV).length<=4611686018427387904,⟨Cab4,(fun h=>by cases h),lw,lw⟩⟩]<|setr 6 (z:=1) (E:=3) (L:=(((List.map (SV.int .i64) (Ca15 ns ss i1 i3 k3)))++([.i ((pi0 (goR ns ss i1 0) (ix (rowG ss i3) k3)) + 1)]))) (L':=(List.map (SV.int .i64) ((Ca15 ns ss i1 i3 k3)++[((pi0 (goR ns ss i1 0) (ix (rowG ss i3) k3)) + 1)]))) kr app_one<|ka [] 1 14 [13,14,12,6,3,2,1] [6,4,3,2,1,0] []<|en<|ib<|an<|kc [(1,.i (k3 + 1))] 3 [14,13,12,6,3,2,1] [6,4,3,2,1,0] [w6 (k3 + 1)]<|ag ⟨(k3 + 1),⟨om,om⟩⟩ (le_s [(5,6)] [(4,⟨((List.map (SV.int .i64) ((Ca15 ns ss i1 i3 k3)++[((pi0 (goR ns ss i1 0) (ix (rowG ss i3) k3)) + 1)])):List SV)=(List.map (SV.int .i64) (piR (goR ns ss i1 0) (rowG ss i3) (k3 + 1))),(by first | rfl | exact congrArg _ (piR_next om om) | (simp; done))⟩)]) dm
    ·
     exact xw_exit<|an_exit<|ag_exit<|ib_same<|an<|reg<|xoi_share 13 5 (z:=1) (E:=3) (xs:=(List.map (SV.int .i64) (Ca15 ns ss i1 i3 k3))) kr kr<|ka [(3,.t)] 5 0 [134,12,6,3,2,1] [6,3,2,1,0] [tr,⟨(∀ y∈((List.map rowI [(Ca15 ns ss i1 i3 k3)]):List SV),ElemOk y)/\(false=true->1<=((List.map rowI [(Ca15 ns ss i1 i3 k3)]):List SV).length/\∀ x∈((Ca18 ns ss i1 i3):List SV),ElemOk x)/\(((Ca18 ns ss i1 i3):List SV).length + ((List.map rowI [(Ca15 ns ss i1 i3 k3)]):List SV).length) * 24<=140737488355328/\((Ca18 ns ss i1 i3):List SV).length + ((List.map rowI [(Ca15 ns ss i1 i3 k3)]):List SV).length<=4611686018427387904,⟨elem_ri,(fun h=>by cases h),lw,lw⟩⟩]<|setr 6 (z:=1) (E:=29) (L:=(((Ca18 ns ss i1 i3))++((List.map rowI [(Ca15 ns ss i1 i3 k3)])))) (L':=(List.map rowI ((piS (goR ns ss i1 0) ss i3)++[(Ca15 ns ss i1 i3 k3)]))) kr mapf_app<|ka [] 2 5 [12,6,3,2,1] [6,3,2,1,0] [tr]<|en<|ib<|an<|kc [(1,.i (i3 + 1))] 3 [12,6,3,2,1] [6,3,2,1,0] [w6 (i3 + 1)]<|ag ⟨(i3 + 1),⟨om,om⟩⟩ (le_s [(4,6)] [(3,⟨((List.map rowI ((piS (goR ns ss i1 0) ss i3)++[(Ca15 ns ss i1 i3 k3)])):List SV)=(List.map rowI (piS (goR ns ss i1 0) ss (i3 + 1))),(by first | rfl | exact congrArg _ (piS_next om om om) | (simp; done))⟩)]) dm
   ·
    exact xw_exit<|an_exit<|ag_exit<|ib_same<|an<|kb [] 2 [2] [4,3,1] [tr,tr]<|xw_ret<|bk_ret (.agg [.own 3,.own 4]) (.agg [.sl false 4 (List.map nodeS (caT ns (goR ns ss i1 0) i2)),.sl false 1 (Ca18 ns ss i1 i3)]) (.agg [.sl false 4 (List.map nodeS (caN ns ss)),.sl false 1 (List.map rowI (caS ns ss))]) kr kr (wk_s [(1,⟨(List.map nodeS (caT ns (goR ns ss i1 0) i2))=(List.map nodeS (caN ns ss)),Cab2⟩),(3,⟨(Ca18 ns ss i1 i3)=(List.map rowI (caS ns ss)),Cab2⟩)]) rfl
end Go.Proofs.YtmmfpkkamgapkaaGreat.X
