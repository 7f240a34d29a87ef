/- Contracts of Go functions: what each returns,for every input that its premises name; no memory of the caller is touched. Printed by a program. -/
import Derived.Test.YtmmfpkkamgapkaaGreatXb1
import Derived.Test.YtmmfpkkamgapkaaGreatXg4
namespace Go.Proofs.YtmmfpkkamgapkaaGreat.X
open Go Go.RowKit
set_option linter.unusedVariables false
set_option linter.unusedSimpArgs false
abbrev R1(ns:List Nd)(ss:List (List Int))(th h:Int):=ndA ns ((ix (rowG ss th) h) - 1)
abbrev R4(ns:List Nd)(ss:List (List Int)):List SV:=[.sl false 4 (List.map nodeS ns),.sl false 1 (List.map rowI ss)]
theorem Rb2{p:Prop}(h:p:=by first | exact decide_eq_true om | exact decide_eq_false om | (simp; done) | (simp; omega) | (simp_all; done) | (simp_all; omega) | grind):p:=h
theorem Rb1{p:Prop}(h:p:=by first | rfl | exact gf0 | exact Eq.symm gf5 | exact Eq.symm gf6 | exact Eq.symm gf7 | exact Eq.symm gf8 | exact gn5 | exact gn6 | exact gn7 | exact gn8 | omega):p:=h
theorem ghand (ns:List Nd)(ss:List (List Int))(th h:Int)(hp0:Nds ns)(hp1:(ns.length:Int) * 48<=140737488355000)(hp2:RIs ss)(hp3:(ss.length:Int) * 24<=140737488355000)(hp4:GOk ns ss)(hp5:0<=th/\th<(ss.length:Int))(hp6:I6 h):Pub Tryz.prog 37 [.agg (R4 ns ss),.i th,.i h] (fun rv=>((0<=h/\h<(((rowG ss th)).length:Int))/\rv = .tup [.i (ix (rowG ss th) h),.i 0])\/((¬ (0<=h/\h<(((rowG ss th)).length:Int)))/\rv = .tup [.i 0,.i 5])):=by
 refine pub_of TT_ok Tryz.func37 rfl (by decide) nk kr<|kb [] 3 [7,6,3,1,2] [0] []<|xw_seq<|xw_seq<|reg<|ka [(1,.bool (decide (h<0)))] 3 0 [10,7,6,3,1,2] [0] [sf (decide (h<0))]<|splitr 10 (x:=(decide (h<0))) kr (fun h0=>?_) (fun h0=>?_)
 ·
  replace h0:h<0:=of_decide_eq_true h0
  exact ka [] 9 3 [19,7,6,3,1,2] [0] [tr]<|en<|an<|ct<|kB [] 2 ⟨[(7,.i 5),(6,.i 0),(3,.p 0),(1,.i th),(2,.i h)],[(0,.cells (R4 ns ss) 46)],1⟩ []<|xw_ret<|an_ret<|bs (.tup [.i 0,.i 5]) (Or.inr <| ⟨om,rfl⟩)
 ·
  replace h0:¬ (h<0):=of_decide_eq_false h0
  refine ka [(7,.sl false 1 (List.map (SV.int .i64) (rowG ss th)))] 5 3 [15,11,10,7,6,3,1,2] [0] [tr,⟨(0:Int)<=th/\th<((((List.map rowI ss)).length:Nat):Int)/\((List.map rowI ss))[(th:Int).toNat]? = some (.sl false 1 (List.map (SV.int .i64) (rowG ss th))),(ix_ri om lw)⟩] ?_
  have h1:I64s (rowG ss th):=(RIs.at rq _).1
  have h2:((rowG ss th).length:Int) * 8<=140737488355000:=(RIs.at rq _).2
  refine kA [(9,.i (((rowG ss th)).length:Int)),(10,.bool (decide ((((rowG ss th)).length:Int)<=h)))] 4 8 ⟨[(19,.bool (decide ((((rowG ss th)).length:Int)<=h))),(7,.i 0),(6,.i 0),(3,.p 0),(1,.i th),(2,.i h)],[(0,.cells (R4 ns ss) 46)],1⟩ [tr,l6 (SV.int .i64) (rowG ss th),sf (decide ((((rowG ss th)).length:Int)<=h)),tr]<|en<|an<|xcD ((((rowG ss th)).length:Int)<=h) (fun h3=>?_) (fun h3=>?_)
  ·
   exact kb [] 2 [7,6,3,1,2] [0] []<|xw_ret<|an_ret<|bs (.tup [.i 0,.i 5]) (Or.inr <| ⟨om,rfl⟩)
  ·
   refine xw_skip<|an<|xw_seq<|reg<|ka [(3,.sl false 1 (List.map (SV.int .i64) (rowG ss th)))] 4 0 [23,7,6,2] [] [tr,⟨(0:Int)<=th/\th<((((List.map rowI ss)).length:Nat):Int)/\((List.map rowI ss))[(th:Int).toNat]? = some (.sl false 1 (List.map (SV.int .i64) (rowG ss th))),(ix_ri om lw)⟩] ?_
   have h4:I64s (rowG ss th):=(RIs.at rq _).1
   have h5:((rowG ss th).length:Int) * 8<=140737488355000:=(RIs.at rq _).2
   refine ka [(6,.i (ix (rowG ss th) h))] 3 4 [26,7,6] [] [tr,x6 .i64 (rowG ss th) h] ?_
   have h6:I6 (ix (rowG ss th) h):=I64s.ix rq _
   exact ka [] 3 7 [7,6] [] [tr]<|en<|an<|xw_ret<|bs (.tup [.i (ix (rowG ss th) h),.i 0]) (Or.inl <| ⟨om,rfl⟩)
theorem ghand_1 (ns:List Nd)(ss:List (List Int))(th h:Int)(hp0:Nds ns)(hp1:(ns.length:Int) * 48<=140737488355000)(hp2:RIs ss)(hp3:(ss.length:Int) * 24<=140737488355000)(hp4:GOk ns ss)(hp5:0<=th/\th<(ss.length:Int))(hp6:I6 h)(hp7:0<=h/\h<(((rowG ss th)).length:Int)):Pub Tryz.prog 37 [.agg (R4 ns ss),.i th,.i h] (fun rv=>rv = .tup [.i (ix (rowG ss th) h),.i 0]) :=
  (ghand ns ss th h hp0 hp1 hp2 hp3 hp4 hp5 hp6).mono vr
theorem ghand_2 (ns:List Nd)(ss:List (List Int))(th h:Int)(hp0:Nds ns)(hp1:(ns.length:Int) * 48<=140737488355000)(hp2:RIs ss)(hp3:(ss.length:Int) * 24<=140737488355000)(hp4:GOk ns ss)(hp5:0<=th/\th<(ss.length:Int))(hp6:I6 h)(hp7:¬ (0<=h/\h<(((rowG ss th)).length:Int))):Pub Tryz.prog 37 [.agg (R4 ns ss),.i th,.i h] (fun rv=>rv = .tup [.i 0,.i 5]) :=
  (ghand ns ss th h hp0 hp1 hp2 hp3 hp4 hp5 hp6).mono vr
set_option maxHeartbeats 8000000 in
theorem gfield (ns:List Nd)(ss:List (List Int))(th k h i j v t f m:Int)(pt:Bool)(hp0:Nds ns)(hp1:(ns.length:Int) * 48<=140737488355000)(hp2:RIs ss)(hp3:(ss.length:Int) * 24<=140737488355000)(hp4:GOk ns ss)(hp5:0<=th/\th<(ss.length:Int))(hp6:I6 h)(hp7:I6 i):Pub Tryz.prog 33 [.agg (R4 ns ss),.i th,.agg [.i k,.i h,.i i,.i j,.u v,.i t,.i f,.u m],.bool pt] (fun rv=>(((gfE ns (rowG ss th) h i pt)=0)/\rv = .tup [.i ((ix (rowG ss th) h) - 1),.i 0])\/(((gfE ns (rowG ss th) h i pt)≠0)/\rv = .tup [.i 0,.i (gfE ns (rowG ss th) h i pt)])):=by
 refine pub_of TT_ok Tryz.func33 rfl (by decide) nk kr<|kb [] 4 [9,8,6,4,1,3] [1,0] []<|xw_seq<|reg<|ka [] 4 0 [18,16,15,9,8,6,4,3] [1,0] [tr,tr] ?_
 by_cases h0:0<=h/\h<(((rowG ss th)).length:Int)
 ·
  refine pc (ghand_1 ns ss th h ZZ om ZZ om ZZ ZZ ZZ ZZ) ?_
  have h1:0<=(ix (rowG ss th) h)/\(ix (rowG ss th) h)<=(ns.length:Int):=GOk.hd ZZ om om om om
  have h2:(ix (rowG ss th) h)=0\/((((Nd.f (R1 ns ss th h)).length:Int)=(Nd.l (R1 ns ss th h)))/\0<=(Nd.l (R1 ns ss th h))/\(Nd.l (R1 ns ss th h))<=16):=(if z:(ix (rowG ss th) h)=0 then .inl z else .inr (GOk.nd ‹GOk ns ss› om om))
  refine ka [] 5 5 [11,10,9,8,6,4,3] [1,0] []<|en<|an<|xw_seq<|kB [(1,.f)] 2 ⟨[(23,.f),(11,.i 0),(10,.i (ix (rowG ss th) h)),(9,.i 0),(8,.i 0),(6,.p 1),(4,.p 0),(3,.bool pt)],[(1,.cells [.i k,.i h,.i i,.i j,.u v,.i t,.i f,.u m] 60),(0,.cells (R4 ns ss) 46)],2⟩ [nF 0 0]<|cf<|xw_skip<|an<|xw_seq<|kb [(1,.bool ((ix (rowG ss th) h) == 0))] 2 [26,10,9,8,6,4,3] [1,0] [sf ((ix (rowG ss th) h) == 0)]<|xcE (ix (rowG ss th) h) 0 (fun h3=>?_) (fun h3=>?_)
  ·
   exact kb [] 2 [9,8,10,6,4,3] [1,0] []<|xw_ret<|an_ret<|br (.tup [.i 0,.i 6]) (.tup [.i 0,.i (gfE ns (rowG ss th) h i pt)]) (wk_s [(1,⟨(6:Int)=(gfE ns (rowG ss th) h i pt),Rb1⟩)]) (Or.inr <| ⟨Rb1,rfl⟩)
  ·
   refine xw_skip<|an<|xw_seq<|reg<|ka [(3,.i ((ix (rowG ss th) h) - 1)),(4,.agg [.i (Nd.t (R1 ns ss th h)),.i (Nd.l (R1 ns ss th h)),.u (Nd.m (R1 ns ss th h)),.sl false 1 (m64 (Nd.f (R1 ns ss th h)))])] 5 0 [31,10,9,8,6,3] [1] [tr,w6 ((ix (rowG ss th) h) - 1),⟨(0:Int)<=((ix (rowG ss th) h) - 1)/\((ix (rowG ss th) h) - 1)<((((List.map nodeS ns)).length:Nat):Int)/\((List.map nodeS ns))[(((ix (rowG ss th) h) - 1):Int).toNat]? = some (.agg [.i (Nd.t (R1 ns ss th h)),.i (Nd.l (R1 ns ss th h)),.u (Nd.m (R1 ns ss th h)),.sl false 1 (m64 (Nd.f (R1 ns ss th h)))]),(ix_nd_ om lw)⟩] ?_
   have h4:(I6 (Nd.t (R1 ns ss th h))):=(Nds.at rq _).1
   have h5:(I6 (Nd.l (R1 ns ss th h))):=(Nds.at rq _).2.1
   have h6:(U6 (Nd.m (R1 ns ss th h))):=(Nds.at rq _).2.2.1
   have h7:U64s (Nd.f (R1 ns ss th h)):=(Nds.at rq _).2.2.2.1
   have h8:((Nd.f (R1 ns ss th h)).length:Int) * 8<=140737488355000:=(Nds.at rq _).2.2.2.2
   refine ka [] 4 5 [12,10,9,8,6,3] [2,1] [tr,tr]<|en<|an<|xw_seq<|xw_seq<|reg<|kA [(2,.bool (decide (i<0)))] 4 0 ⟨[(37,.bool (decide (i<0))),(12,.p 2),(10,.i (ix (rowG ss th) h)),(9,.i 0),(8,.i 0),(6,.p 1),(3,.bool pt)],[(2,.cells [.i (Nd.t (R1 ns ss th h)),.i (Nd.l (R1 ns ss th h)),.u (Nd.m (R1 ns ss th h))] 58),(1,.cells [.i k,.i h,.i i,.i j,.u v,.i t,.i f,.u m] 60)],3⟩ [tr,sf (decide (i<0))]<|splitr 37 (x:=(decide (i<0))) kr (fun h9=>?_) (fun h9=>?_)
   ·
    replace h9:i<0:=of_decide_eq_true h9
    exact ka [] 6 4 [43,12,10,9,8,6,3] [2,1] [tr]<|en<|an<|ct<|kb [] 2 [9,8,12,10,6,3] [2,1] []<|xw_ret<|an_ret<|br (.tup [.i 0,.i 7]) (.tup [.i 0,.i (gfE ns (rowG ss th) h i pt)]) (wk_s [(1,⟨(7:Int)=(gfE ns (rowG ss th) h i pt),Rb1⟩)]) (Or.inr <| ⟨Rb1,rfl⟩)
   ·
    replace h9:¬ (i<0):=of_decide_eq_false h9
    refine ka [(8,.bool (decide ((Nd.l (R1 ns ss th h))<=i)))] 6 4 [43,12,10,9,8,6,3] [2,1] [tr,tr,sf (decide ((Nd.l (R1 ns ss th h))<=i)),tr]<|en<|an<|xcD ((Nd.l (R1 ns ss th h))<=i) (fun h10=>?_) (fun h10=>?_)
    ·
     exact kb [] 2 [9,8,12,10,6,3] [2,1] []<|xw_ret<|an_ret<|br (.tup [.i 0,.i 7]) (.tup [.i 0,.i (gfE ns (rowG ss th) h i pt)]) (wk_s [(1,⟨(7:Int)=(gfE ns (rowG ss th) h i pt),(by (try simp only [R1,R4] at *);first | rfl | exact gf0 | exact Eq.symm gf5 | exact Eq.symm gf6 | exact Eq.symm gf7 | exact Eq.symm gf8 | exact gn5 | exact gn6 | exact gn7 | exact gn8 | omega)⟩)]) (Or.inr <| ⟨(by (try simp only [R1,R4] at *);first | rfl | exact gf0 | exact Eq.symm gf5 | exact Eq.symm gf6 | exact Eq.symm gf7 | exact Eq.symm gf8 | exact gn5 | exact gn6 | exact gn7 | exact gn8 | omega),rfl⟩)
    ·
     refine xw_skip<|an<|xw_seq<|reg<|ka [] 3 0 [46,44,10,9,8,3] [] [tr,tr]<|pc (rhpointer (Nd.t (R1 ns ss th h)) (Nd.l (R1 ns ss th h)) (Nd.m (R1 ns ss th h)) i ZZ ZZ ZZ)<|ka [] 1 4 [13,10,9,8,3] [] []<|en<|an<|xw_seq<|xw_seq<|reg<|kA [] 2 0 ⟨[(49,.bool pt),(48,.bool (isPtr (Nd.l (R1 ns ss th h)) (Nd.m (R1 ns ss th h)) i)),(10,.i (ix (rowG ss th) h)),(9,.i 0),(8,.i 0)],[],3⟩ [] ?_
     by_cases h11:isPtr (Nd.l (R1 ns ss th h)) (Nd.m (R1 ns ss th h)) i=true
     ·
      by_cases h12:pt=true
      ·
       exact ka [(2,.f)] 1 2 [50,10,9,8] [] [⟨(!((isPtr (Nd.l (R1 ns ss th h)) (Nd.m (R1 ns ss th h)) i) == pt))=false,(by rw [show (isPtr (Nd.l (R1 ns ss th h)) (Nd.m (R1 ns ss th h)) i)=true from Rb2,show pt=true from Rb2]; rfl)⟩]<|en<|an<|cf<|xw_skip<|an<|kb [(1,.i ((ix (rowG ss th) h) - 1))] 4 [9,8] [] [w6 ((ix (rowG ss th) h) - 1)]<|xw_ret<|bs (.tup [.i ((ix (rowG ss th) h) - 1),.i 0]) (Or.inl <| ⟨(by (try simp only [R1,R4] at *);first | rfl | exact gf0 | exact Eq.symm gf5 | exact Eq.symm gf6 | exact Eq.symm gf7 | exact Eq.symm gf8 | exact gn5 | exact gn6 | exact gn7 | exact gn8 | omega),rfl⟩)
      ·
       exact ka [(2,.t)] 1 2 [50,10,9,8] [] [⟨(!((isPtr (Nd.l (R1 ns ss th h)) (Nd.m (R1 ns ss th h)) i) == pt))=true,(by rw [show (isPtr (Nd.l (R1 ns ss th h)) (Nd.m (R1 ns ss th h)) i)=true from Rb2,show pt=false from Rb2]; rfl)⟩]<|en<|an<|ct<|kb [] 2 [9,8,10] [] []<|xw_ret<|an_ret<|br (.tup [.i 0,.i 8]) (.tup [.i 0,.i (gfE ns (rowG ss th) h i pt)]) (wk_s [(1,⟨(8:Int)=(gfE ns (rowG ss th) h i pt),(by (try simp only [R1,R4] at *);first | rfl | exact gf0 | exact Eq.symm gf5 | exact Eq.symm gf6 | exact Eq.symm gf7 | exact Eq.symm gf8 | exact gn5 | exact gn6 | exact gn7 | exact gn8 | omega)⟩)]) (Or.inr <| ⟨(by (try simp only [R1,R4] at *);first | rfl | exact gf0 | exact Eq.symm gf5 | exact Eq.symm gf6 | exact Eq.symm gf7 | exact Eq.symm gf8 | exact gn5 | exact gn6 | exact gn7 | exact gn8 | omega),rfl⟩)
     ·
      by_cases h12:pt=true
      ·
       exact ka [(2,.t)] 1 2 [50,10,9,8] [] [⟨(!((isPtr (Nd.l (R1 ns ss th h)) (Nd.m (R1 ns ss th h)) i) == pt))=true,(by rw [show (isPtr (Nd.l (R1 ns ss th h)) (Nd.m (R1 ns ss th h)) i)=false from Rb2,show pt=true from Rb2]; rfl)⟩]<|en<|an<|ct<|kb [] 2 [9,8,10] [] []<|xw_ret<|an_ret<|br (.tup [.i 0,.i 8]) (.tup [.i 0,.i (gfE ns (rowG ss th) h i pt)]) (wk_s [(1,⟨(8:Int)=(gfE ns (rowG ss th) h i pt),(by (try simp only [R1,R4] at *);first | rfl | exact gf0 | exact Eq.symm gf5 | exact Eq.symm gf6 | exact Eq.symm gf7 | exact Eq.symm gf8 | exact gn5 | exact gn6 | exact gn7 | exact gn8 | omega)⟩)]) (Or.inr <| ⟨(by (try simp only [R1,R4] at *);first | rfl | exact gf0 | exact Eq.symm gf5 | exact Eq.symm gf6 | exact Eq.symm gf7 | exact Eq.symm gf8 | exact gn5 | exact gn6 | exact gn7 | exact gn8 | omega),rfl⟩)
      ·
       exact ka [(2,.f)] 1 2 [50,10,9,8] [] [⟨(!((isPtr (Nd.l (R1 ns ss th h)) (Nd.m (R1 ns ss th h)) i) == pt))=false,(by rw [show (isPtr (Nd.l (R1 ns ss th h)) (Nd.m (R1 ns ss th h)) i)=false from Rb2,show pt=false from Rb2]; rfl)⟩]<|en<|an<|cf<|xw_skip<|an<|kb [(1,.i ((ix (rowG ss th) h) - 1))] 4 [9,8] [] [w6 ((ix (rowG ss th) h) - 1)]<|xw_ret<|bs (.tup [.i ((ix (rowG ss th) h) - 1),.i 0]) (Or.inl <| ⟨(by (try simp only [R1,R4] at *);first | rfl | exact gf0 | exact Eq.symm gf5 | exact Eq.symm gf6 | exact Eq.symm gf7 | exact Eq.symm gf8 | exact gn5 | exact gn6 | exact gn7 | exact gn8 | omega),rfl⟩)
 ·
  exact pc (ghand_2 ns ss th h ZZ om ZZ om ZZ ZZ ZZ ZZ)<|ka [] 5 5 [11,10,9,8,6,4,3] [1,0] []<|en<|an<|xw_seq<|kB [(1,.t)] 2 ⟨[(23,.t),(11,.i 5),(10,.i 0),(9,.i 0),(8,.i 0),(6,.p 1),(4,.p 0),(3,.bool pt)],[(1,.cells [.i k,.i h,.i i,.i j,.u v,.i t,.i f,.u m] 60),(0,.cells (R4 ns ss) 46)],2⟩ [nT 5 0]<|ct<|kb [] 3 [9,8,10,6,4,3] [1,0] []<|xw_ret<|an_ret<|br (.tup [.i 0,.i 5]) (.tup [.i 0,.i (gfE ns (rowG ss th) h i pt)]) (wk_s [(1,⟨(5:Int)=(gfE ns (rowG ss th) h i pt),Rb1⟩)]) (Or.inr <| ⟨Rb1,rfl⟩)
theorem gfield_1 (ns:List Nd)(ss:List (List Int))(th k h i j v t f m:Int)(pt:Bool)(hp0:Nds ns)(hp1:(ns.length:Int) * 48<=140737488355000)(hp2:RIs ss)(hp3:(ss.length:Int) * 24<=140737488355000)(hp4:GOk ns ss)(hp5:0<=th/\th<(ss.length:Int))(hp6:I6 h)(hp7:I6 i)(hp8:(gfE ns (rowG ss th) h i pt)=0):Pub Tryz.prog 33 [.agg (R4 ns ss),.i th,.agg [.i k,.i h,.i i,.i j,.u v,.i t,.i f,.u m],.bool pt] (fun rv=>rv = .tup [.i ((ix (rowG ss th) h) - 1),.i 0]) :=
  (gfield ns ss th k h i j v t f m pt hp0 hp1 hp2 hp3 hp4 hp5 hp6 hp7).mono vr
theorem gfield_2 (ns:List Nd)(ss:List (List Int))(th k h i j v t f m:Int)(pt:Bool)(hp0:Nds ns)(hp1:(ns.length:Int) * 48<=140737488355000)(hp2:RIs ss)(hp3:(ss.length:Int) * 24<=140737488355000)(hp4:GOk ns ss)(hp5:0<=th/\th<(ss.length:Int))(hp6:I6 h)(hp7:I6 i)(hp8:(gfE ns (rowG ss th) h i pt)≠0):Pub Tryz.prog 33 [.agg (R4 ns ss),.i th,.agg [.i k,.i h,.i i,.i j,.u v,.i t,.i f,.u m],.bool pt] (fun rv=>rv = .tup [.i 0,.i (gfE ns (rowG ss th) h i pt)]) :=
  (gfield ns ss th k h i j v t f m pt hp0 hp1 hp2 hp3 hp4 hp5 hp6 hp7).mono vr
end Go.Proofs.YtmmfpkkamgapkaaGreat.X
