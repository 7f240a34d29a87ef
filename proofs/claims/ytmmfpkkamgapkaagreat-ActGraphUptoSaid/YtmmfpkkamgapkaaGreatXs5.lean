/- Contracts of Go functions: what each returns,for every input that its premises name; no memory of the caller is touched. Printed by a program. -/
import Derived.Test.YtmmfpkkamgapkaaGreatXs4
import Derived.Test.YtmmfpkkamgapkaaGreatXs2
namespace Go.Proofs.YtmmfpkkamgapkaaGreat.X
open Go Go.RowKit
set_option linter.unusedVariables false
set_option linter.unusedSimpArgs false
abbrev Da1(ns:List Nd)(ss:List (List Int)):List SV:=[.sl false 4 (List.map nodeS ns),.sl false 1 (List.map rowI ss)]
abbrev Da2(ns:List Nd)(i1:Int):List SV:=[.i (Nd.t (ndA ns i1)),.i (Nd.l (ndA ns i1)),.u (Nd.m (ndA ns i1)),.sl false 1 (m64 (Nd.f (ndA ns i1)))]
abbrev Da3(ns:List Nd)(ss:List (List Int)):Mem:=[(1,.cells (Da1 ns ss) 46),(0,.cells (Da1 ns ss) 46)]
abbrev Da4(l:List Int):=List.map (SV.int .i64) l
theorem gqwords (l:List Int)(hp0:U64s l)(hp1:(l.length:Int) * 8<=140737488355000):Pub Tryz.prog 68 [.sl false 1 (m64 l),.sl false 1 (m64 l)] (fun rv=>rv = .t):=by
 refine pub_of TT_ok Tryz.func68 rfl (by decide) nk kr<|kb [] 1 [4,0,1] [] []<|xw_seq<|kb [(1,.i ((l).length:Int)),(3,.i ((l).length:Int)),(4,.f)] 5 [10,4,0,1] [] [l6 (SV.int .u64) l,l6 (SV.int .u64) l,nF ((l).length:Int) ((l).length:Int)]<|cf<|xw_skip<|an<|xw_seq<|kb [] 1 [5,4,0,1] [] []<|xw_block<|xw_loop (α:={q:Int // (0<=q)/\(q<=(l.length:Int))}) (fun p=>⟨[(5,.i p.1),(4,.f),(0,.sl false 1 (m64 l)),(1,.sl false 1 (m64 l))],[],0⟩) (fun p=>((l.length:Int) - p.1).toNat) ⟨0,⟨om,om⟩⟩ (le_s []) ?_
 rintro ⟨i1,h0,h1⟩
 show XW _ _ _ _ _ _ ⟨[(5,.int .i64 i1),(4,.bool false),(0,.sl false 1 (m64 l)),(1,.sl false 1 (m64 l))],[],0⟩
 refine xw_seq<|kb [(2,.i ((l).length:Int)),(3,.bool (decide (i1<((l).length:Int))))] 4 [14,5,4,0,1] [] [l6 (SV.int .u64) l,sf (decide (i1<((l).length:Int)))]<|xcD (i1<((l).length:Int)) (fun h2=>?_) (fun h2=>?_)
 ·
  refine xw_skip<|an<|xw_seq<|xw_block<|xw_seq<|dregk hmix kr<|kd [(2,.u (ix l i1))] 3 0 [x6 .u64 l i1] ?_
  have h3:U6 (ix l i1):=U64s.ix rq _
  refine kd [(6,.u (ix l i1))] 4 3 [tr,x6 .u64 l i1] ?_
  have h4:U6 (ix l i1):=U64s.ix rq _
  exact kd [(8,.f)] 2 7 [tr,nF (ix l i1) (ix l i1)]<|qen<|an<|cf<|xw_skip<|ib<|an<|kC [(1,.i (i1 + 1))] 3 ⟨[(5,.i (i1 + 1)),(4,.f),(0,.sl false 1 (m64 l)),(1,.sl false 1 (m64 l))],[],0⟩ [w6 (i1 + 1)]<|ag ⟨(i1 + 1),⟨om,om⟩⟩ (le_s []) dm
 ·
  exact xw_exit<|an_exit<|ag_exit<|ib_same<|an<|kb [] 1 [4] [] []<|xw_ret<|bs (.t) rfl
theorem gqints (l:List Int)(hp0:I64s l)(hp1:(l.length:Int) * 8<=140737488355000):Pub Tryz.prog 69 [.sl false 1 (Da4 l),.sl false 1 (Da4 l)] (fun rv=>rv = .t):=by
 refine pub_of TT_ok Tryz.func69 rfl (by decide) nk kr<|kb [] 1 [4,0,1] [] []<|xw_seq<|kb [(1,.i ((l).length:Int)),(3,.i ((l).length:Int)),(4,.f)] 5 [10,4,0,1] [] [l6 (SV.int .i64) l,l6 (SV.int .i64) l,nF ((l).length:Int) ((l).length:Int)]<|cf<|xw_skip<|an<|xw_seq<|kb [] 1 [5,4,0,1] [] []<|xw_block<|xw_loop (α:={q:Int // (0<=q)/\(q<=(l.length:Int))}) (fun p=>⟨[(5,.i p.1),(4,.f),(0,.sl false 1 (Da4 l)),(1,.sl false 1 (Da4 l))],[],0⟩) (fun p=>((l.length:Int) - p.1).toNat) ⟨0,⟨om,om⟩⟩ (le_s []) ?_
 rintro ⟨i1,h0,h1⟩
 show XW _ _ _ _ _ _ ⟨[(5,.int .i64 i1),(4,.bool false),(0,.sl false 1 (Da4 l)),(1,.sl false 1 (Da4 l))],[],0⟩
 refine xw_seq<|kb [(2,.i ((l).length:Int)),(3,.bool (decide (i1<((l).length:Int))))] 4 [14,5,4,0,1] [] [l6 (SV.int .i64) l,sf (decide (i1<((l).length:Int)))]<|xcD (i1<((l).length:Int)) (fun h2=>?_) (fun h2=>?_)
 ·
  refine xw_skip<|an<|xw_seq<|xw_block<|xw_seq<|dregk hmix kr<|kd [(2,.i (ix l i1))] 3 0 [x6 .i64 l i1] ?_
  have h3:I6 (ix l i1):=I64s.ix rq _
  refine kd [(6,.i (ix l i1))] 4 3 [tr,x6 .i64 l i1] ?_
  have h4:I6 (ix l i1):=I64s.ix rq _
  exact kd [(8,.f)] 2 7 [tr,nF (ix l i1) (ix l i1)]<|qen<|an<|cf<|xw_skip<|ib<|an<|kC [(1,.i (i1 + 1))] 3 ⟨[(5,.i (i1 + 1)),(4,.f),(0,.sl false 1 (Da4 l)),(1,.sl false 1 (Da4 l))],[],0⟩ [w6 (i1 + 1)]<|ag ⟨(i1 + 1),⟨om,om⟩⟩ (le_s []) dm
 ·
  exact xw_exit<|an_exit<|ag_exit<|ib_same<|an<|kb [] 1 [4] [] []<|xw_ret<|bs (.t) rfl
set_option maxHeartbeats 8000000 in
theorem gsame (ns:List Nd)(ss:List (List Int))(hp0:Nds ns)(hp1:(ns.length:Int) * 48<=140737488355000)(hp2:RIs ss)(hp3:(ss.length:Int) * 24<=140737488355000):Pub Tryz.prog 38 [.agg (Da1 ns ss),.agg (Da1 ns ss)] (fun rv=>rv = .t):=by
 refine pub_of TT_ok Tryz.func38 rfl (by decide) nk kr<|kb [] 3 [4,3,2] [1,0] []<|xw_seq<|kb [(2,.i ((ns).length:Int)),(5,.i ((ns).length:Int)),(6,.f),(10,.i ((ss).length:Int)),(13,.i ((ss).length:Int)),(14,.f)] 16 [24,4,3,2] [1,0] [tr,l6 nodeS ns,tr,l6 nodeS ns,nF ((ns).length:Int) ((ns).length:Int),tr,l6 rowI ss,tr,l6 rowI ss,nF ((ss).length:Int) ((ss).length:Int),tr]<|cf<|xw_skip<|an<|xw_seq<|kb [] 1 [5,4,3,2] [1,0] []<|xw_block<|xw_loop (α:={q:Int // (0<=q)/\(q<=(ns.length:Int))}) (fun p=>⟨[(5,.i p.1),(4,.f),(3,.p 1),(2,.p 0)],(Da3 ns ss),2⟩) (fun p=>((ns.length:Int) - p.1).toNat) ⟨0,⟨om,om⟩⟩ (le_s []) ?_
 rintro ⟨i1,h0,h1⟩
 show XW _ _ _ _ _ _ ⟨[(5,.int .i64 i1),(4,.bool false),(3,.loc 1 0),(2,.loc 0 0)],(Da3 ns ss),2⟩
 refine xw_seq<|kb [(3,.i ((ns).length:Int)),(4,.bool (decide (i1<((ns).length:Int))))] 5 [29,5,4,3,2] [1,0] [tr,l6 nodeS ns,sf (decide (i1<((ns).length:Int)))]<|xcD (i1<((ns).length:Int)) (fun h2=>?_) (fun h2=>?_)
 ·
  refine xw_skip<|an<|xw_seq<|xw_block<|xw_seq<|dregk hmix kr<|kd [(3,.agg (Da2 ns i1))] 4 0 [tr,⟨(0:Int)<=i1/\i1<((((List.map nodeS ns)).length:Nat):Int)/\((List.map nodeS ns))[(i1:Int).toNat]? = some (.agg (Da2 ns i1)),(ix_nd_ om lw)⟩] ?_
  have h3:(I6 (Nd.t (ndA ns i1))):=(Nds.at rq _).1
  have h4:(I6 (Nd.l (ndA ns i1))):=(Nds.at rq _).2.1
  have h5:(U6 (Nd.m (ndA ns i1))):=(Nds.at rq _).2.2.1
  have h6:U64s (Nd.f (ndA ns i1)):=(Nds.at rq _).2.2.2.1
  have h7:((Nd.f (ndA ns i1)).length:Int) * 8<=140737488355000:=(Nds.at rq _).2.2.2.2
  refine kd [(9,.agg (Da2 ns i1))] 6 4 [tr,tr,⟨(0:Int)<=i1/\i1<((((List.map nodeS ns)).length:Nat):Int)/\((List.map nodeS ns))[(i1:Int).toNat]? = some (.agg (Da2 ns i1)),(ix_nd_ om lw)⟩] ?_
  have h8:(I6 (Nd.t (ndA ns i1))):=(Nds.at rq _).1
  have h9:(I6 (Nd.l (ndA ns i1))):=(Nds.at rq _).2.1
  have h10:(U6 (Nd.m (ndA ns i1))):=(Nds.at rq _).2.2.1
  have h11:U64s (Nd.f (ndA ns i1)):=(Nds.at rq _).2.2.2.1
  have h12:((Nd.f (ndA ns i1)).length:Int) * 8<=140737488355000:=(Nds.at rq _).2.2.2.2
  refine kd [] 2 10 [tr]<|qc (gqwords (Nd.f (ndA ns i1)) ZZ om)<|kd [] 1 13 []<|qen<|an<|xw_seq<|dregk hmix kr<|kd [(6,.agg (Da2 ns i1))] 7 0 [tr,⟨(0:Int)<=i1/\i1<((((List.map nodeS ns)).length:Nat):Int)/\((List.map nodeS ns))[(i1:Int).toNat]? = some (.agg (Da2 ns i1)),(ix_nd_ om lw)⟩] ?_
  have h13:(I6 (Nd.t (ndA ns i1))):=(Nds.at rq _).1
  have h14:(I6 (Nd.l (ndA ns i1))):=(Nds.at rq _).2.1
  have h15:(U6 (Nd.m (ndA ns i1))):=(Nds.at rq _).2.2.1
  have h16:U64s (Nd.f (ndA ns i1)):=(Nds.at rq _).2.2.2.1
  have h17:((Nd.f (ndA ns i1)).length:Int) * 8<=140737488355000:=(Nds.at rq _).2.2.2.2
  refine kd [(12,.agg (Da2 ns i1))] 6 7 [tr,tr,⟨(0:Int)<=i1/\i1<((((List.map nodeS ns)).length:Nat):Int)/\((List.map nodeS ns))[(i1:Int).toNat]? = some (.agg (Da2 ns i1)),(ix_nd_ om lw)⟩] ?_
  have h18:(I6 (Nd.t (ndA ns i1))):=(Nds.at rq _).1
  have h19:(I6 (Nd.l (ndA ns i1))):=(Nds.at rq _).2.1
  have h20:(U6 (Nd.m (ndA ns i1))):=(Nds.at rq _).2.2.1
  have h21:U64s (Nd.f (ndA ns i1)):=(Nds.at rq _).2.2.2.1
  have h22:((Nd.f (ndA ns i1)).length:Int) * 8<=140737488355000:=(Nds.at rq _).2.2.2.2
  exact kd [(15,.f)] 4 13 [tr,⟨(!(((Nd.t (ndA ns i1)) == (Nd.t (ndA ns i1))) && (((Nd.l (ndA ns i1)) == (Nd.l (ndA ns i1))) && (((Nd.m (ndA ns i1)) == (Nd.m (ndA ns i1))) && true))))=false,(by first | (simp <;> omega) | (simp only [Bool.not_eq_eq_eq_not,Bool.not_true,Bool.not_false,Bool.and_eq_true,beq_iff_eq,and_true]; and_intros <;> first | omega | assumption))⟩,tr]<|qen<|an<|cf<|xw_skip<|ib<|an<|kC [(1,.i (i1 + 1))] 3 ⟨[(5,.i (i1 + 1)),(4,.f),(3,.p 1),(2,.p 0)],(Da3 ns ss),2⟩ [w6 (i1 + 1)]<|ag ⟨(i1 + 1),⟨om,om⟩⟩ (le_s []) dm
 ·
  refine xw_exit<|an_exit<|ag_exit<|ib_same<|an<|xw_seq<|kb [] 1 [7,4,3,2] [1,0] []<|xw_block<|xw_loop (α:={q:Int // (0<=q)/\(q<=(ss.length:Int))}) (fun p=>⟨[(7,.i p.1),(4,.f),(3,.p 1),(2,.p 0)],(Da3 ns ss),2⟩) (fun p=>((ss.length:Int) - p.1).toNat) ⟨0,⟨om,om⟩⟩ (le_s []) ?_
  rintro ⟨i2,h3,h4⟩
  show XW _ _ _ _ _ _ ⟨[(7,.int .i64 i2),(4,.bool false),(3,.loc 1 0),(2,.loc 0 0)],(Da3 ns ss),2⟩
  refine xw_seq<|kb [(3,.i ((ss).length:Int)),(4,.bool (decide (i2<((ss).length:Int))))] 5 [66,7,4,3,2] [1,0] [tr,l6 rowI ss,sf (decide (i2<((ss).length:Int)))]<|xcD (i2<((ss).length:Int)) (fun h5=>?_) (fun h5=>?_)
  ·
   refine xw_skip<|an<|xw_seq<|xw_block<|xw_seq<|dregk hmix kr<|kd [(3,.sl false 1 (List.map (SV.int .i64) (rowG ss i2)))] 4 0 [tr,⟨(0:Int)<=i2/\i2<((((List.map rowI ss)).length:Nat):Int)/\((List.map rowI ss))[(i2:Int).toNat]? = some (.sl false 1 (List.map (SV.int .i64) (rowG ss i2))),(ix_ri om lw)⟩] ?_
   have h6:I64s (rowG ss i2):=(RIs.at rq _).1
   have h7:((rowG ss i2).length:Int) * 8<=140737488355000:=(RIs.at rq _).2
   refine kd [(8,.sl false 1 (List.map (SV.int .i64) (rowG ss i2)))] 5 4 [tr,tr,⟨(0:Int)<=i2/\i2<((((List.map rowI ss)).length:Nat):Int)/\((List.map rowI ss))[(i2:Int).toNat]? = some (.sl false 1 (List.map (SV.int .i64) (rowG ss i2))),(ix_ri om lw)⟩] ?_
   have h8:I64s (rowG ss i2):=(RIs.at rq _).1
   have h9:((rowG ss i2).length:Int) * 8<=140737488355000:=(RIs.at rq _).2
   exact kd [] 1 9 [tr]<|qc (gqints (rowG ss i2) ZZ om)<|kd [] 1 11 []<|qen<|an<|kB [] 2 ⟨[(81,.f),(7,.i i2),(4,.f),(3,.p 1),(2,.p 0)],(Da3 ns ss),2⟩ []<|cf<|xw_skip<|ib<|an<|kc [(1,.i (i2 + 1))] 3 [7,4,3,2] [1,0] [w6 (i2 + 1)]<|ag ⟨(i2 + 1),⟨om,om⟩⟩ (le_s []) dm
  ·
   exact xw_exit<|an_exit<|ag_exit<|ib_same<|an<|kb [] 1 [4] [] []<|xw_ret<|bs (.t) rfl
theorem gsame2 (ns:List Nd)(ss:List (List Int))(n2:List Nd)(s2:List (List Int))(hp0:ns=n2)(hp1:ss=s2)(hp2:Nds ns)(hp3:(ns.length:Int) * 48<=140737488355000)(hp4:RIs ss)(hp5:(ss.length:Int) * 24<=140737488355000):Pub Tryz.prog 38 [.agg (Da1 ns ss),.agg [.sl false 4 (List.map nodeS n2),.sl false 1 (List.map rowI s2)]] (fun rv=>rv = .t):=by
  subst hp0 hp1; exact gsame ns ss hp2 hp3 hp4 hp5
theorem galike (W:Int)(xs ys:List Int)(rs:List (List Int))(ns:List Nd)(ss:List (List Int))(hp0:16<=W/\W<=4096)(hp1:(xs.length:Int)=W)(hp2:(ys.length:Int)=W)(hp3:U64s xs)(hp4:U64s ys)(hp5:RUs rs)(hp6:(rs.length:Int) * 24<=140737488355000)(hp7:(rs.flatten.length:Int) * 8<=140737488355000)(hp8:Nds ns)(hp9:(ns.length:Int) * 48<=140737488355000)(hp10:RIs ss)(hp11:(ss.length:Int) * 24<=140737488355000)(hp12:GOk ns ss)(hp13:(ns.length:Int)<=8192)(hp14:(ofB W xs ys rs)=true)(hp15:(ofN W xs ys rs)=(caN ns ss))(hp16:(ofS W xs ys rs)=(caS ns ss))(hp17:Nds (ofN W xs ys rs))(hp18:((ofN W xs ys rs).length:Int) * 48<=140737488355000)(hp19:RIs (ofS W xs ys rs))(hp20:((ofS W xs ys rs).length:Int) * 24<=140737488355000):Pub Tryz.prog 12 [.agg (mm W xs ys),.sl false 1 (List.map rowU rs),.agg (Da1 ns ss)] (fun rv=>rv = .t):=by
 exact pub_of TT_ok Tryz.func12 rfl (by decide) nk kr<|kb [] 3 [6,5,3,1] [1,0] []<|xw_seq<|reg<|ka [] 2 0 [11,10,6,5] [1] [tr]<|pc (roff_1 W xs ys rs ZZ ZZ ZZ ZZ ZZ ZZ om om ZZ)<|ka [] 6 3 [8,7,6,5] [2,1] [tr]<|en<|an<|xw_seq<|dregk hmix kr<|kd [(1,.t)] 5 0 [qT 0 0,tr,tr]<|qc (gcanon ns ss ZZ om ZZ om ZZ ZZ)<|qc (gsame2 (ofN W xs ys rs) (ofS W xs ys rs) (caN ns ss) (caS ns ss) ZZ ZZ ZZ om ZZ om)<|kd [] 2 7 [tr]<|qen<|an<|xw_ret<|bs (.t) rfl
end Go.Proofs.YtmmfpkkamgapkaaGreat.X
