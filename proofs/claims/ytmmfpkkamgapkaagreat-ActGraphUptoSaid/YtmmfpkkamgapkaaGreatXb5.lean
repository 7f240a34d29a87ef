/- Contracts of Go functions: what each returns,for every input that its premises name; no memory of the caller is touched. Printed by a program. -/
import Derived.Test.YtmmfpkkamgapkaaGreatXb4
namespace Go.Proofs.YtmmfpkkamgapkaaGreat.X
open Go Go.RowKit
set_option linter.unusedVariables false
abbrev E1(xs ys:List Int)(a i:Int):List SV:=[.u (ldw xs ys (a + 2 + i)),.bool (isPtr ((ldw xs ys a / 4294967296) % 16777216) (ldw xs ys a % 4294967296) i),.i 0]
abbrev E3(xs ys:List Int)(a:Int):List SV:=[.i (ldw xs ys a / 72057594037927936),.i ((ldw xs ys a / 4294967296) % 16777216),.u (ldw xs ys a % 4294967296)]
abbrev E4(a i:Int)(xs ys:List Int):List SV:=[.u (a + 2 + i),.bool (isPtr ((ldw xs ys a / 4294967296) % 16777216) (ldw xs ys a % 4294967296) i),.i 0]
abbrev E5(xs ys:List Int)(a:Int):Nat×Blk:=(1,.cells [.i (hT xs ys a),.i (hL xs ys a),.u (hM xs ys a)] 58)
abbrev E6(W:Int)(xs ys:List Int):Nat×Blk:=(0,.cells (mm W xs ys) 25)
abbrev E7:Nat×Blk:=(1,.cells [.i 0,.nils,.nils] 25)
abbrev E8:Nat×Blk:=(1,.cells [.i 0,.i 0,.u 0] 58)
theorem oreal (W:Int)(xs ys:List Int)(a:Int)(hp0:16<=W/\W<=4096)(hp1:(xs.length:Int)=W)(hp2:(ys.length:Int)=W)(hp3:U64s xs)(hp4:U64s ys)(hp5:U6 a):Pub Tryz.prog 117 [.agg (mm W xs ys),.u a] (fun rv=>(((oErr W xs ys a)=0)/\((ldw xs ys a / 72057594037927936)≠255)/\rv = .tup [.agg (E3 xs ys a),.i 0])\/(((oErr W xs ys a)=0)/\((ldw xs ys a / 72057594037927936)=255)/\rv = .tup [.agg [.i 0,.i 0,.u 0],.i 8])\/((¬ ((oErr W xs ys a)=0))/\rv = .tup [.agg [.i 0,.i 0,.u 0],.i (oErr W xs ys a)])):=by
 refine pub_of TT_ok Tryz.func117 rfl (by decide) nk kr<|kb [] 3 [5,4,2,1] [1,0] []<|xw_seq<|reg<|ka [] 2 0 [10,9,5,4] [1] [tr] ?_
 by_cases h0:(oErr W xs ys a)=0
 ·
  refine pc (oat_1 W xs ys a ZZ ZZ ZZ ZZ ZZ ZZ ZZ) ?_
  obtain ⟨h1,h2,h3⟩:=oErr_ok W xs ys a ZZ
  refine ka [] 6 3 [7,6,5,4] [2,1] [tr]<|en<|an<|xw_seq<|kB [(1,.t),(5,.bool ((ldw xs ys a / 72057594037927936) == 255))] 7 ⟨[(20,.bool ((hT xs ys a) == 255)),(7,.i 0),(6,.p 2),(5,.i 0),(4,.p 1)],[(2,.cells [.i (hT xs ys a),.i (hL xs ys a),.u (hM xs ys a)] 58),E8],3⟩ [qT 0 0,tr,sf ((ldw xs ys a / 72057594037927936) == 255),tr]<|xcE (ldw xs ys a / 72057594037927936) 255 (fun h4=>?_) (fun h4=>?_)
  ·
   exact kb [] 3 [5,7,6,4] [2,1] [tr]<|xw_ret<|an_ret<|bs (.tup [.agg [.i 0,.i 0,.u 0],.i 8]) (Or.inr <| Or.inl <| ⟨om,om,rfl⟩)
  ·
   exact xw_skip<|an<|kb [] 4 [5,4] [1] [tr,tr]<|xw_ret<|bs (.tup [.agg (E3 xs ys a),.i 0]) (Or.inl <| ⟨om,om,rfl⟩)
 ·
  refine pc (oat_2 W xs ys a ZZ ZZ ZZ ZZ ZZ ZZ ZZ) ?_
  have h1:(oErr W xs ys a)=2\/(oErr W xs ys a)=10:=oErr_no W xs ys a om
  exact ka [] 6 3 [7,6,5,4] [2,1] [tr]<|en<|an<|xw_seq<|kB [(1,.f)] 7 ⟨[(20,.f),(7,.i (oErr W xs ys a)),(6,.p 2),(5,.i 0),(4,.p 1)],[(2,.cells [.i 0,.i 0,.u 0] 58),E8],3⟩ [qF (oErr W xs ys a) 0,tr]<|cf<|xw_skip<|an<|kb [] 4 [5,4] [1] [tr,tr]<|xw_ret<|bs (.tup [.agg [.i 0,.i 0,.u 0],.i (oErr W xs ys a)]) (Or.inr <| Or.inr <| ⟨om,rfl⟩)
theorem oreal_1 (W:Int)(xs ys:List Int)(a:Int)(hp0:16<=W/\W<=4096)(hp1:(xs.length:Int)=W)(hp2:(ys.length:Int)=W)(hp3:U64s xs)(hp4:U64s ys)(hp5:U6 a)(hp6:(oErr W xs ys a)=0)(hp7:(ldw xs ys a / 72057594037927936)≠255):Pub Tryz.prog 117 [.agg (mm W xs ys),.u a] (fun rv=>rv = .tup [.agg (E3 xs ys a),.i 0]) :=
  (oreal W xs ys a hp0 hp1 hp2 hp3 hp4 hp5).mono vr
theorem oreal_2 (W:Int)(xs ys:List Int)(a:Int)(hp0:16<=W/\W<=4096)(hp1:(xs.length:Int)=W)(hp2:(ys.length:Int)=W)(hp3:U64s xs)(hp4:U64s ys)(hp5:U6 a)(hp6:(oErr W xs ys a)=0)(hp7:(ldw xs ys a / 72057594037927936)=255):Pub Tryz.prog 117 [.agg (mm W xs ys),.u a] (fun rv=>rv = .tup [.agg [.i 0,.i 0,.u 0],.i 8]) :=
  (oreal W xs ys a hp0 hp1 hp2 hp3 hp4 hp5).mono vr
theorem oreal_3 (W:Int)(xs ys:List Int)(a:Int)(hp0:16<=W/\W<=4096)(hp1:(xs.length:Int)=W)(hp2:(ys.length:Int)=W)(hp3:U64s xs)(hp4:U64s ys)(hp5:U6 a)(hp6:¬ ((oErr W xs ys a)=0)):Pub Tryz.prog 117 [.agg (mm W xs ys),.u a] (fun rv=>rv = .tup [.agg [.i 0,.i 0,.u 0],.i (oErr W xs ys a)]) :=
  (oreal W xs ys a hp0 hp1 hp2 hp3 hp4 hp5).mono vr
set_option maxHeartbeats 8000000 in
theorem ofield (W:Int)(xs ys:List Int)(a i:Int)(hp0:16<=W/\W<=4096)(hp1:(xs.length:Int)=W)(hp2:(ys.length:Int)=W)(hp3:U64s xs)(hp4:U64s ys)(hp5:U6 a)(hp6:I6 i):Pub Tryz.prog 104 [.agg (mm W xs ys),.u a,.i i] (fun rv=>(((oErr W xs ys a)=0)/\((ldw xs ys a / 72057594037927936)≠255)/\(0<=i/\i<((ldw xs ys a / 4294967296) % 16777216))/\rv = .tup (E4 a i xs ys))\/(((oErr W xs ys a)=0)/\((ldw xs ys a / 72057594037927936)≠255)/\(¬ (0<=i/\i<((ldw xs ys a / 4294967296) % 16777216)))/\rv = .tup [.u 0,.f,.i 7])\/(((oErr W xs ys a)=0)/\((ldw xs ys a / 72057594037927936)=255)/\rv = .tup [.u 0,.f,.i 8])\/((¬ ((oErr W xs ys a)=0))/\rv = .tup [.u 0,.f,.i (oErr W xs ys a)])):=by
 refine pub_of TT_ok Tryz.func104 rfl (by decide) nk kr<|kb [] 4 [8,7,6,3,1,2] [0] []<|xw_seq<|reg<|ka [] 2 0 [13,12,8,7,6,1,2] [] [tr] ?_
 by_cases h0:((oErr W xs ys a)=0)/\((ldw xs ys a / 72057594037927936)≠255)
 ·
  refine pc (oreal_1 W xs ys a ZZ ZZ ZZ ZZ ZZ ZZ om om) ?_
  obtain ⟨h1,h2,h3⟩:=oErr_ok W xs ys a om
  have h4:1<=(a + 1) / 4294967296/\(a + 1) / 4294967296<=2/\(a + 1) % 4294967296<W:=by omega
  refine ka [] 6 3 [10,9,8,7,6,1,2] [1] [tr]<|en<|an<|xw_seq<|xw_block<|kB [(1,.f)] 3 ⟨[(17,.f),(10,.i 0),(9,.p 1),(8,.i 0),(7,.f),(6,.u 0),(1,.u a),(2,.i i)],[(E5 xs ys a)],2⟩ [nF 0 0]<|cf<|xw_seq<|reg<|ka [(1,.bool (decide (i<0)))] 3 0 [24,9,8,7,6,1,2] [1] [sf (decide (i<0))]<|splitr 24 (x:=(decide (i<0))) kr (fun h5=>?_) (fun h5=>?_)
  ·
   replace h5:i<0:=of_decide_eq_true h5
   exact ka [] 6 3 [21,9,8,7,6,1,2] [1] [tr]<|en<|an<|ct<|kb [] 3 [8,7,6,9,1,2] [1] []<|xw_ret<|ib_ret<|an_ret<|bs (.tup [.u 0,.f,.i 7]) (Or.inr <| Or.inl <| ⟨om,om,om,rfl⟩)
  ·
   replace h5:¬ (i<0):=of_decide_eq_false h5
   refine ka [(6,.bool (decide (((ldw xs ys a / 4294967296) % 16777216)<=i)))] 6 3 [21,9,8,7,6,1,2] [1] [tr,sf (decide (((ldw xs ys a / 4294967296) % 16777216)<=i)),tr]<|en<|an<|xcD (((ldw xs ys a / 4294967296) % 16777216)<=i) (fun h6=>?_) (fun h6=>?_)
   ·
    exact kb [] 3 [8,7,6,9,1,2] [1] []<|xw_ret<|ib_ret<|an_ret<|bs (.tup [.u 0,.f,.i 7]) (Or.inr <| Or.inl <| ⟨om,om,om,rfl⟩)
   ·
    refine xw_skip<|ib<|an<|xw_seq<|sreg hmix [([(1,.cells (E3 xs ys a) 58)],2)] [] [(2,[1]),(3,[0,1,2]),(6,[0,1,2,3,4,5]),(7,[0,1,2,3,4,5,6]),(8,[0,1,2,3,4,5,6,7]),(9,[0,1,2,3,4,5,6,7,8])] kr kr kr kr kr<|ke [(2,.t)] 3 0 [tr,tr,tr]<|sc (sum2 a 2 i om om om)<|ke [] 2 4 [tr,tr]<|sc (hpointer (ldw xs ys a / 72057594037927936) ((ldw xs ys a / 4294967296) % 16777216) (ldw xs ys a % 4294967296) i om om om)<|ke [] 3 7 [tr,tr,tr]<|sen<|an<|xw_ret ?_
    by_cases h7:isPtr ((ldw xs ys a / 4294967296) % 16777216) (ldw xs ys a % 4294967296) i=true
    ·
     exact bs (.tup (E4 a i xs ys)) (Or.inl <| ⟨om,om,om,rfl⟩)
    ·
     exact bs (.tup (E4 a i xs ys)) (Or.inl <| ⟨om,om,om,rfl⟩)
 ·
  by_cases h1:((oErr W xs ys a)=0)/\((ldw xs ys a / 72057594037927936)=255)
  ·
   refine pc (oreal_2 W xs ys a ZZ ZZ ZZ ZZ ZZ ZZ om om) ?_
   obtain ⟨h2,h3,h4⟩:=oErr_ok W xs ys a om
   exact ka [] 6 3 [10,9,8,7,6,1,2] [1] [tr]<|en<|an<|xw_seq<|xw_block<|kB [(1,.t)] 3 ⟨[(17,.t),(10,.i 8),(9,.p 1),(8,.i 0),(7,.f),(6,.u 0),(1,.u a),(2,.i i)],[E8],2⟩ [nT 8 0]<|ct<|kb [] 4 [8,7,6,9,1,2] [1] []<|xw_ret<|ib_ret<|an_ret<|bs (.tup [.u 0,.f,.i 8]) (Or.inr <| Or.inr <| Or.inl <| ⟨om,om,rfl⟩)
  ·
   refine pc (oreal_3 W xs ys a ZZ ZZ ZZ ZZ ZZ ZZ om) ?_
   have h2:(oErr W xs ys a)=2\/(oErr W xs ys a)=10:=oErr_no W xs ys a om
   exact ka [] 6 3 [10,9,8,7,6,1,2] [1] [tr]<|en<|an<|xw_seq<|xw_block<|kB [(1,.t)] 3 ⟨[(17,.t),(10,.i (oErr W xs ys a)),(9,.p 1),(8,.i 0),(7,.f),(6,.u 0),(1,.u a),(2,.i i)],[E8],2⟩ [nT (oErr W xs ys a) 0]<|ct<|kb [] 4 [8,7,6,9,1,2] [1] []<|xw_ret<|ib_ret<|an_ret<|bs (.tup [.u 0,.f,.i (oErr W xs ys a)]) (Or.inr <| Or.inr <| Or.inr <| ⟨om,rfl⟩)
theorem ofield_1 (W:Int)(xs ys:List Int)(a i:Int)(hp0:16<=W/\W<=4096)(hp1:(xs.length:Int)=W)(hp2:(ys.length:Int)=W)(hp3:U64s xs)(hp4:U64s ys)(hp5:U6 a)(hp6:I6 i)(hp7:(oErr W xs ys a)=0)(hp8:(ldw xs ys a / 72057594037927936)≠255)(hp9:0<=i/\i<((ldw xs ys a / 4294967296) % 16777216)):Pub Tryz.prog 104 [.agg (mm W xs ys),.u a,.i i] (fun rv=>rv = .tup (E4 a i xs ys)) :=
  (ofield W xs ys a i hp0 hp1 hp2 hp3 hp4 hp5 hp6).mono vr
theorem ofield_2 (W:Int)(xs ys:List Int)(a i:Int)(hp0:16<=W/\W<=4096)(hp1:(xs.length:Int)=W)(hp2:(ys.length:Int)=W)(hp3:U64s xs)(hp4:U64s ys)(hp5:U6 a)(hp6:I6 i)(hp7:(oErr W xs ys a)=0)(hp8:(ldw xs ys a / 72057594037927936)≠255)(hp9:¬ (0<=i/\i<((ldw xs ys a / 4294967296) % 16777216))):Pub Tryz.prog 104 [.agg (mm W xs ys),.u a,.i i] (fun rv=>rv = .tup [.u 0,.f,.i 7]) :=
  (ofield W xs ys a i hp0 hp1 hp2 hp3 hp4 hp5 hp6).mono vr
theorem ofield_3 (W:Int)(xs ys:List Int)(a i:Int)(hp0:16<=W/\W<=4096)(hp1:(xs.length:Int)=W)(hp2:(ys.length:Int)=W)(hp3:U64s xs)(hp4:U64s ys)(hp5:U6 a)(hp6:I6 i)(hp7:(oErr W xs ys a)=0)(hp8:(ldw xs ys a / 72057594037927936)=255):Pub Tryz.prog 104 [.agg (mm W xs ys),.u a,.i i] (fun rv=>rv = .tup [.u 0,.f,.i 8]) :=
  (ofield W xs ys a i hp0 hp1 hp2 hp3 hp4 hp5 hp6).mono vr
theorem ofield_4 (W:Int)(xs ys:List Int)(a i:Int)(hp0:16<=W/\W<=4096)(hp1:(xs.length:Int)=W)(hp2:(ys.length:Int)=W)(hp3:U64s xs)(hp4:U64s ys)(hp5:U6 a)(hp6:I6 i)(hp7:¬ ((oErr W xs ys a)=0)):Pub Tryz.prog 104 [.agg (mm W xs ys),.u a,.i i] (fun rv=>rv = .tup [.u 0,.f,.i (oErr W xs ys a)]) :=
  (ofield W xs ys a i hp0 hp1 hp2 hp3 hp4 hp5 hp6).mono vr
set_option maxHeartbeats 8000000 in
theorem oget (W:Int)(xs ys:List Int)(a i:Int)(hp0:16<=W/\W<=4096)(hp1:(xs.length:Int)=W)(hp2:(ys.length:Int)=W)(hp3:U64s xs)(hp4:U64s ys)(hp5:U6 a)(hp6:I6 i):Pub Tryz.prog 80 [.agg (mm W xs ys),.u a,.i i] (fun rv=>(((oErr W xs ys a)=0)/\((ldw xs ys a / 72057594037927936)≠255)/\(0<=i/\i<((ldw xs ys a / 4294967296) % 16777216))/\rv = .tup (E1 xs ys a i))\/(((oErr W xs ys a)=0)/\((ldw xs ys a / 72057594037927936)≠255)/\(¬ (0<=i/\i<((ldw xs ys a / 4294967296) % 16777216)))/\rv = .tup [.u 0,.f,.i 7])\/(((oErr W xs ys a)=0)/\((ldw xs ys a / 72057594037927936)=255)/\rv = .tup [.u 0,.f,.i 8])\/((¬ ((oErr W xs ys a)=0))/\rv = .tup [.u 0,.f,.i (oErr W xs ys a)])):=by
 refine pub_of TT_ok Tryz.func80 rfl (by decide) nk kr<|kb [] 4 [8,7,6,3,1,2] [0] []<|xw_seq<|reg<|ka [] 3 0 [17,16,15,8,7,6,3] [0] [tr] ?_
 by_cases h0:((oErr W xs ys a)=0)/\((ldw xs ys a / 72057594037927936)≠255)/\(0<=i/\i<((ldw xs ys a / 4294967296) % 16777216))
 ·
  refine pc (ofield_1 W xs ys a i ZZ ZZ ZZ ZZ ZZ ZZ ZZ om om om) ?_
  obtain ⟨h1,h2,h3⟩:=oErr_ok W xs ys a om
  have h4:1<=(a + 2 + i) / 4294967296/\(a + 2 + i) / 4294967296<=2/\(a + 2 + i) % 4294967296<W:=by omega
  refine ka [] 7 4 [11,10,9,8,7,6,3] [0] []<|en<|an<|xw_seq<|kB [(1,.f)] 2 ⟨[(23,.f),(11,.i 0),(10,.bool (isPtr (hL xs ys a) (hM xs ys a) i)),(9,.u (a + 2 + i)),(8,.i 0),(7,.f),(6,.u 0),(3,.p 0)],[(E6 W xs ys)],1⟩ [nF 0 0]<|cf<|xw_skip<|an<|xw_seq<|reg<|ka [] 2 0 [27,26,10,8,7,6] [] [tr]<|pc (load_1 W xs ys (a + 2 + i) ZZ ZZ ZZ ZZ ZZ om om) ?_
  have h5:U6 (ldw xs ys (a + 2 + i)):=ldw_ok xs ys (a + 2 + i) ZZ ZZ
  refine ka [] 5 3 [12,10,8,7,6] [] []<|en<|an<|kb [] 5 [8,7,6] [] []<|xw_ret ?_
  by_cases h6:isPtr ((ldw xs ys a / 4294967296) % 16777216) (ldw xs ys a % 4294967296) i=true
  ·
   exact bs (.tup (E1 xs ys a i)) (Or.inl <| ⟨om,om,om,rfl⟩)
  ·
   exact bs (.tup (E1 xs ys a i)) (Or.inl <| ⟨om,om,om,rfl⟩)
 ·
  by_cases h1:((oErr W xs ys a)=0)/\((ldw xs ys a / 72057594037927936)≠255)/\(¬ (0<=i/\i<((ldw xs ys a / 4294967296) % 16777216)))
  ·
   refine pc (ofield_2 W xs ys a i ZZ ZZ ZZ ZZ ZZ ZZ ZZ om om om) ?_
   obtain ⟨h2,h3,h4⟩:=oErr_ok W xs ys a om
   exact ka [] 7 4 [11,10,9,8,7,6,3] [0] []<|en<|an<|xw_seq<|kB [(1,.t)] 2 ⟨[(23,.t),(11,.i 7),(10,.f),(9,.u 0),(8,.i 0),(7,.f),(6,.u 0),(3,.p 0)],[(E6 W xs ys)],1⟩ [nT 7 0]<|ct<|kb [] 4 [8,7,6,10,9,3] [0] []<|xw_ret<|an_ret<|bs (.tup [.u 0,.f,.i 7]) (Or.inr <| Or.inl <| ⟨om,om,om,rfl⟩)
  ·
   by_cases h2:((oErr W xs ys a)=0)/\((ldw xs ys a / 72057594037927936)=255)
   ·
    refine pc (ofield_3 W xs ys a i ZZ ZZ ZZ ZZ ZZ ZZ ZZ om om) ?_
    obtain ⟨h3,h4,h5⟩:=oErr_ok W xs ys a om
    exact ka [] 7 4 [11,10,9,8,7,6,3] [0] []<|en<|an<|xw_seq<|kB [(1,.t)] 2 ⟨[(23,.t),(11,.i 8),(10,.f),(9,.u 0),(8,.i 0),(7,.f),(6,.u 0),(3,.p 0)],[(E6 W xs ys)],1⟩ [nT 8 0]<|ct<|kb [] 4 [8,7,6,10,9,3] [0] []<|xw_ret<|an_ret<|bs (.tup [.u 0,.f,.i 8]) (Or.inr <| Or.inr <| Or.inl <| ⟨om,om,rfl⟩)
   ·
    refine pc (ofield_4 W xs ys a i ZZ ZZ ZZ ZZ ZZ ZZ ZZ om) ?_
    have h3:(oErr W xs ys a)=2\/(oErr W xs ys a)=10:=oErr_no W xs ys a om
    exact ka [] 7 4 [11,10,9,8,7,6,3] [0] []<|en<|an<|xw_seq<|kB [(1,.t)] 2 ⟨[(23,.t),(11,.i (oErr W xs ys a)),(10,.f),(9,.u 0),(8,.i 0),(7,.f),(6,.u 0),(3,.p 0)],[(E6 W xs ys)],1⟩ [nT (oErr W xs ys a) 0]<|ct<|kb [] 4 [8,7,6,10,9,3] [0] []<|xw_ret<|an_ret<|bs (.tup [.u 0,.f,.i (oErr W xs ys a)]) (Or.inr <| Or.inr <| Or.inr <| ⟨om,rfl⟩)
theorem oget_1 (W:Int)(xs ys:List Int)(a i:Int)(hp0:16<=W/\W<=4096)(hp1:(xs.length:Int)=W)(hp2:(ys.length:Int)=W)(hp3:U64s xs)(hp4:U64s ys)(hp5:U6 a)(hp6:I6 i)(hp7:(oErr W xs ys a)=0)(hp8:(ldw xs ys a / 72057594037927936)≠255)(hp9:0<=i/\i<((ldw xs ys a / 4294967296) % 16777216)):Pub Tryz.prog 80 [.agg (mm W xs ys),.u a,.i i] (fun rv=>rv = .tup (E1 xs ys a i)) :=
  (oget W xs ys a i hp0 hp1 hp2 hp3 hp4 hp5 hp6).mono vr
theorem oget_2 (W:Int)(xs ys:List Int)(a i:Int)(hp0:16<=W/\W<=4096)(hp1:(xs.length:Int)=W)(hp2:(ys.length:Int)=W)(hp3:U64s xs)(hp4:U64s ys)(hp5:U6 a)(hp6:I6 i)(hp7:(oErr W xs ys a)=0)(hp8:(ldw xs ys a / 72057594037927936)≠255)(hp9:¬ (0<=i/\i<((ldw xs ys a / 4294967296) % 16777216))):Pub Tryz.prog 80 [.agg (mm W xs ys),.u a,.i i] (fun rv=>rv = .tup [.u 0,.f,.i 7]) :=
  (oget W xs ys a i hp0 hp1 hp2 hp3 hp4 hp5 hp6).mono vr
set_option maxHeartbeats 8000000 in
theorem roget (W:Int)(xs ys:List Int)(a i:Int)(hp0:16<=W/\W<=4096)(hp1:(xs.length:Int)=W)(hp2:(ys.length:Int)=W)(hp3:U64s xs)(hp4:U64s ys)(hp5:U6 a)(hp6:I6 i):Pub Tryz.prog 18 [.agg (mm W xs ys),.u a,.i i] (fun rv=>(((oErr W xs ys a)=0)/\((ldw xs ys a / 72057594037927936)≠255)/\(0<=i/\i<((ldw xs ys a / 4294967296) % 16777216))/\rv = .tup (E1 xs ys a i))\/(((oErr W xs ys a)=0)/\((ldw xs ys a / 72057594037927936)≠255)/\(¬ (0<=i/\i<((ldw xs ys a / 4294967296) % 16777216)))/\rv = .tup [.u 0,.f,.i 7])\/(((oErr W xs ys a)=0)/\((ldw xs ys a / 72057594037927936)=255)/\rv = .tup [.u 0,.f,.i 8])\/((¬ ((oErr W xs ys a)=0))/\rv = .tup [.u 0,.f,.i (oErr W xs ys a)])):=by
 refine pub_of TT_ok Tryz.func18 rfl (by decide) nk kr<|kb [] 4 [8,7,6,3,1,2] [0] []<|xw_seq<|reg<|ka [] 2 0 [15,14,8,7,6,3,1,2] [0] [tr] ?_
 by_cases h0:(oErr W xs ys a)=0
 ·
  refine pc (roat_1 W xs ys a ZZ ZZ ZZ ZZ ZZ ZZ ZZ) ?_
  obtain ⟨h1,h2,h3⟩:=oErr_ok W xs ys a ZZ
  refine ka [] 6 3 [10,9,8,7,6,3,1,2] [1,0] [tr]<|en<|an<|xw_seq<|kB [(1,.f)] 2 ⟨[(20,.f),(10,.i 0),(9,.p 1),(8,.i 0),(7,.f),(6,.u 0),(3,.p 0),(1,.u a),(2,.i i)],[(E5 xs ys a),(E6 W xs ys)],2⟩ [nF 0 0]<|cf<|xw_skip<|an<|xw_seq<|kb [(2,.bool ((ldw xs ys a / 72057594037927936) == 255))] 3 [24,9,8,7,6,3,1,2] [1,0] [tr,sf ((ldw xs ys a / 72057594037927936) == 255)]<|xcE (ldw xs ys a / 72057594037927936) 255 (fun h4=>?_) (fun h4=>?_)
  ·
   exact kb [] 3 [8,7,6,9,3,1,2] [1,0] []<|xw_ret<|an_ret<|bs (.tup [.u 0,.f,.i 8]) (Or.inr <| Or.inr <| Or.inl <| ⟨om,om,rfl⟩)
  ·
   refine xw_skip<|an<|xw_seq<|xw_seq<|reg<|ka [(1,.bool (decide (i<0)))] 3 0 [27,9,8,7,6,3,1,2] [1,0] [sf (decide (i<0))]<|splitr 27 (x:=(decide (i<0))) kr (fun h5=>?_) (fun h5=>?_)
   ·
    replace h5:i<0:=of_decide_eq_true h5
    exact ka [] 5 3 [32,9,8,7,6,3,1,2] [1,0] [tr]<|en<|an<|ct<|kB [] 3 ⟨[(8,.i 7),(7,.f),(6,.u 0),(9,.p 1),(3,.p 0),(1,.u a),(2,.i i)],[(E5 xs ys a),(E6 W xs ys)],2⟩ []<|xw_ret<|an_ret<|bs (.tup [.u 0,.f,.i 7]) (Or.inr <| Or.inl <| ⟨om,om,om,rfl⟩)
   ·
    replace h5:¬ (i<0):=of_decide_eq_false h5
    refine ka [(6,.bool (decide (((ldw xs ys a / 4294967296) % 16777216)<=i)))] 5 3 [32,9,8,7,6,3,1,2] [1,0] [tr,sf (decide (((ldw xs ys a / 4294967296) % 16777216)<=i)),tr]<|en<|an<|xcD (((ldw xs ys a / 4294967296) % 16777216)<=i) (fun h6=>?_) (fun h6=>?_)
    ·
     exact kB [] 3 ⟨[(8,.i 7),(7,.f),(6,.u 0),(9,.p 1),(3,.p 0),(1,.u a),(2,.i i)],[(E5 xs ys a),(E6 W xs ys)],2⟩ []<|xw_ret<|an_ret<|bs (.tup [.u 0,.f,.i 7]) (Or.inr <| Or.inl <| ⟨om,om,om,rfl⟩)
    ·
     refine xw_skip<|an<|xw_seq<|reg<|kA [(2,.i (a + 2)),(4,.i i),(5,.i ((a + 2) + i))] 6 0 ⟨[(39,.u ((a + 2) + i)),(34,.agg (mm W xs ys)),(9,.p 1),(8,.i 0),(7,.f),(6,.u 0),(2,.i i)],[(E5 xs ys a)],2⟩ [tr,w7 (a + 2),w7 i,w7 ((a + 2) + i)]<|pc (rload_1 W xs ys ((a + 2) + i) ZZ ZZ ZZ ZZ ZZ om om) ?_
     have h7:U6 (ldw xs ys ((a + 2) + i)):=ldw_ok xs ys ((a + 2) + i) ZZ ZZ
     refine ka [] 5 7 [11,9,8,7,6,2] [1] []<|en<|an<|xw_seq<|reg<|ka [] 3 0 [45,44,43,8,7,6] [] [tr]<|pc (rhpointer (ldw xs ys a / 72057594037927936) ((ldw xs ys a / 4294967296) % 16777216) (ldw xs ys a % 4294967296) i om om om)<|ka [] 3 4 [8,7,6] [] []<|en<|an<|xw_ret ?_
     by_cases h8:isPtr ((ldw xs ys a / 4294967296) % 16777216) (ldw xs ys a % 4294967296) i=true
     ·
      exact br (.tup [.u (ldw xs ys ((a + 2) + i)),.bool (isPtr ((ldw xs ys a / 4294967296) % 16777216) (ldw xs ys a % 4294967296) i),.i 0]) (.tup (E1 xs ys a i)) (wk_s [(0,⟨((ldw xs ys ((a + 2) + i)):Int)=(ldw xs ys (a + 2 + i)),(by first | omega | grind)⟩)]) (Or.inl <| ⟨om,om,om,rfl⟩)
     ·
      exact br (.tup [.u (ldw xs ys ((a + 2) + i)),.bool (isPtr ((ldw xs ys a / 4294967296) % 16777216) (ldw xs ys a % 4294967296) i),.i 0]) (.tup (E1 xs ys a i)) (wk_s [(0,⟨((ldw xs ys ((a + 2) + i)):Int)=(ldw xs ys (a + 2 + i)),(by first | omega | grind)⟩)]) (Or.inl <| ⟨om,om,om,rfl⟩)
 ·
  refine pc (roat_2 W xs ys a ZZ ZZ ZZ ZZ ZZ ZZ ZZ) ?_
  have h1:(oErr W xs ys a)=2\/(oErr W xs ys a)=10:=oErr_no W xs ys a om
  exact ka [] 6 3 [10,9,8,7,6,3,1,2] [1,0] [tr]<|en<|an<|xw_seq<|kB [(1,.t)] 2 ⟨[(20,.t),(10,.i (oErr W xs ys a)),(9,.p 1),(8,.i 0),(7,.f),(6,.u 0),(3,.p 0),(1,.u a),(2,.i i)],[E8,(E6 W xs ys)],2⟩ [nT (oErr W xs ys a) 0]<|ct<|kb [] 4 [8,7,6,9,3,1,2] [1,0] []<|xw_ret<|an_ret<|bs (.tup [.u 0,.f,.i (oErr W xs ys a)]) (Or.inr <| Or.inr <| Or.inr <| ⟨om,rfl⟩)
theorem roget_1 (W:Int)(xs ys:List Int)(a i:Int)(hp0:16<=W/\W<=4096)(hp1:(xs.length:Int)=W)(hp2:(ys.length:Int)=W)(hp3:U64s xs)(hp4:U64s ys)(hp5:U6 a)(hp6:I6 i)(hp7:(oErr W xs ys a)=0)(hp8:(ldw xs ys a / 72057594037927936)≠255)(hp9:0<=i/\i<((ldw xs ys a / 4294967296) % 16777216)):Pub Tryz.prog 18 [.agg (mm W xs ys),.u a,.i i] (fun rv=>rv = .tup (E1 xs ys a i)) :=
  (roget W xs ys a i hp0 hp1 hp2 hp3 hp4 hp5 hp6).mono vr
set_option maxHeartbeats 8000000 in
theorem oset (W:Int)(xs ys:List Int)(a i v:Int)(hp0:16<=W/\W<=4096)(hp1:(xs.length:Int)=W)(hp2:(ys.length:Int)=W)(hp3:U64s xs)(hp4:U64s ys)(hp5:U6 a)(hp6:I6 i)(hp7:U6 v):Pub Tryz.prog 85 [.agg (mm W xs ys),.u a,.i i,.u v] (fun rv=>(((oErr W xs ys a)=0)/\((ldw xs ys a / 72057594037927936)≠255)/\(0<=i/\i<((ldw xs ys a / 4294967296) % 16777216))/\rv = .tup [.agg (mm W (stx xs (a + 2 + i) v) (sty ys (a + 2 + i) v)),.i 0])\/(((oErr W xs ys a)=0)/\((ldw xs ys a / 72057594037927936)≠255)/\(¬ (0<=i/\i<((ldw xs ys a / 4294967296) % 16777216)))/\rv = .tup [.agg (mm W xs ys),.i 7])\/(((oErr W xs ys a)=0)/\((ldw xs ys a / 72057594037927936)=255)/\rv = .tup [.agg (mm W xs ys),.i 8])\/((¬ ((oErr W xs ys a)=0))/\rv = .tup [.agg (mm W xs ys),.i (oErr W xs ys a)])):=by
 refine pub_of TT_ok Tryz.func85 rfl (by decide) nk kr<|kb [] 3 [9,8,4,1,2,3] [1,0] []<|xw_seq<|reg<|ka [] 3 0 [16,15,14,9,8,4,3] [1,0] [tr] ?_
 by_cases h0:((oErr W xs ys a)=0)/\((ldw xs ys a / 72057594037927936)≠255)/\(0<=i/\i<((ldw xs ys a / 4294967296) % 16777216))
 ·
  refine pc (ofield_1 W xs ys a i ZZ ZZ ZZ ZZ ZZ ZZ ZZ om om om) ?_
  obtain ⟨h1,h2,h3⟩:=oErr_ok W xs ys a om
  have h4:1<=(a + 2 + i) / 4294967296/\(a + 2 + i) / 4294967296<=2/\(a + 2 + i) % 4294967296<W:=by omega
  refine ka [] 7 4 [12,10,9,8,4,3] [1,0] []<|en<|an<|xw_seq<|kB [(1,.f)] 2 ⟨[(22,.f),(12,.i 0),(10,.u (a + 2 + i)),(9,.i 0),(8,.p 1),(4,.p 0),(3,.u v)],[E7,(E6 W xs ys)],2⟩ [nF 0 0]<|cf<|xw_skip<|an<|xw_seq<|reg<|ka [] 3 0 [27,26,25,9,8] [1] [tr]<|pc (store_1 W xs ys (a + 2 + i) v ZZ ZZ ZZ ZZ ZZ om ZZ om) ?_
  obtain ⟨h5,h6,h7,h8⟩:=stx_ok W xs ys (a + 2 + i) v ZZ ZZ ZZ ZZ om
  exact ka [] 4 4 [9,8] [1] [tr]<|en<|an<|xw_ret<|bs (.tup [.agg (mm W (stx xs (a + 2 + i) v) (sty ys (a + 2 + i) v)),.i 0]) (Or.inl <| ⟨om,om,om,rfl⟩)
 ·
  by_cases h1:((oErr W xs ys a)=0)/\((ldw xs ys a / 72057594037927936)≠255)/\(¬ (0<=i/\i<((ldw xs ys a / 4294967296) % 16777216)))
  ·
   refine pc (ofield_2 W xs ys a i ZZ ZZ ZZ ZZ ZZ ZZ ZZ om om om) ?_
   obtain ⟨h2,h3,h4⟩:=oErr_ok W xs ys a om
   exact ka [] 7 4 [12,10,9,8,4,3] [1,0] []<|en<|an<|xw_seq<|kB [(1,.t)] 2 ⟨[(22,.t),(12,.i 7),(10,.u 0),(9,.i 0),(8,.p 1),(4,.p 0),(3,.u v)],[E7,(E6 W xs ys)],2⟩ [nT 7 0]<|ct<|kb [] 4 [9,10,8,4,3] [1,0] [tr,tr]<|xw_ret<|an_ret<|bs (.tup [.agg (mm W xs ys),.i 7]) (Or.inr <| Or.inl <| ⟨om,om,om,rfl⟩)
  ·
   by_cases h2:((oErr W xs ys a)=0)/\((ldw xs ys a / 72057594037927936)=255)
   ·
    refine pc (ofield_3 W xs ys a i ZZ ZZ ZZ ZZ ZZ ZZ ZZ om om) ?_
    obtain ⟨h3,h4,h5⟩:=oErr_ok W xs ys a om
    exact ka [] 7 4 [12,10,9,8,4,3] [1,0] []<|en<|an<|xw_seq<|kB [(1,.t)] 2 ⟨[(22,.t),(12,.i 8),(10,.u 0),(9,.i 0),(8,.p 1),(4,.p 0),(3,.u v)],[E7,(E6 W xs ys)],2⟩ [nT 8 0]<|ct<|kb [] 4 [9,10,8,4,3] [1,0] [tr,tr]<|xw_ret<|an_ret<|bs (.tup [.agg (mm W xs ys),.i 8]) (Or.inr <| Or.inr <| Or.inl <| ⟨om,om,rfl⟩)
   ·
    refine pc (ofield_4 W xs ys a i ZZ ZZ ZZ ZZ ZZ ZZ ZZ om) ?_
    have h3:(oErr W xs ys a)=2\/(oErr W xs ys a)=10:=oErr_no W xs ys a om
    exact ka [] 7 4 [12,10,9,8,4,3] [1,0] []<|en<|an<|xw_seq<|kB [(1,.t)] 2 ⟨[(22,.t),(12,.i (oErr W xs ys a)),(10,.u 0),(9,.i 0),(8,.p 1),(4,.p 0),(3,.u v)],[E7,(E6 W xs ys)],2⟩ [nT (oErr W xs ys a) 0]<|ct<|kb [] 4 [9,10,8,4,3] [1,0] [tr,tr]<|xw_ret<|an_ret<|bs (.tup [.agg (mm W xs ys),.i (oErr W xs ys a)]) (Or.inr <| Or.inr <| Or.inr <| ⟨om,rfl⟩)
theorem oset_1 (W:Int)(xs ys:List Int)(a i v:Int)(hp0:16<=W/\W<=4096)(hp1:(xs.length:Int)=W)(hp2:(ys.length:Int)=W)(hp3:U64s xs)(hp4:U64s ys)(hp5:U6 a)(hp6:I6 i)(hp7:U6 v)(hp8:(oErr W xs ys a)=0)(hp9:(ldw xs ys a / 72057594037927936)≠255)(hp10:0<=i/\i<((ldw xs ys a / 4294967296) % 16777216)):Pub Tryz.prog 85 [.agg (mm W xs ys),.u a,.i i,.u v] (fun rv=>rv = .tup [.agg (mm W (stx xs (a + 2 + i) v) (sty ys (a + 2 + i) v)),.i 0]) :=
  (oset W xs ys a i v hp0 hp1 hp2 hp3 hp4 hp5 hp6 hp7).mono vr
theorem ofill (W:Int)(xs ys:List Int)(a n:Int)(hp0:16<=W/\W<=4096)(hp1:(xs.length:Int)=W)(hp2:(ys.length:Int)=W)(hp3:U64s xs)(hp4:U64s ys)(hp5:U6 a)(hp6:I6 n):Pub Tryz.prog 113 [.agg (mm W xs ys),.u a,.i n] (fun rv=>((1<=n/\n<=65536)/\(1<=a / 4294967296/\a / 4294967296<=2/\a % 4294967296<W)/\((a % 4294967296) + n<=W)/\rv = .tup [.agg (mm W (px xs a 255 (n - 1) 0) (py ys a 255 (n - 1) 0)),.i 0])\/((1<=n/\n<=65536)/\(¬ ((1<=a / 4294967296/\a / 4294967296<=2/\a % 4294967296<W)/\(a % 4294967296) + n<=W))/\rv = .tup [.agg (mm W xs ys),.i 2])\/((¬ (1<=n/\n<=65536))/\rv = .tup [.agg (mm W xs ys),.i 1])):=by
 refine pub_of TT_ok Tryz.func113 rfl (by decide) nk kr<|kb [] 3 [7,6,3,1,2] [1,0] []<|xw_seq<|xw_seq<|reg<|ka [(1,.bool (decide (n<1)))] 3 0 [10,7,6,3,1,2] [1,0] [sf (decide (n<1))]<|splitr 10 (x:=(decide (n<1))) kr (fun h0=>?_) (fun h0=>?_)
 ·
  replace h0:n<1:=of_decide_eq_true h0
  exact ka [] 3 3 [13,7,6,3,1,2] [1,0] [tr]<|en<|an<|ct<|kB [] 3 ⟨[(7,.i 1),(6,.p 1),(3,.p 0),(1,.u a),(2,.i n)],[(1,.cells (mm W xs ys) 25),(E6 W xs ys)],2⟩ [tr,tr]<|xw_ret<|an_ret<|bs (.tup [.agg (mm W xs ys),.i 1]) (Or.inr <| Or.inr <| ⟨om,rfl⟩)
 ·
  replace h0:¬ (n<1):=of_decide_eq_false h0
  refine ka [(4,.bool (decide (65536<n)))] 3 3 [13,7,6,3,1,2] [1,0] [sf (decide (65536<n)),tr]<|en<|an<|xcD (65536<n) (fun h1=>?_) (fun h1=>?_)
  ·
   exact kB [] 3 ⟨[(7,.i 1),(6,.p 1),(3,.p 0),(1,.u a),(2,.i n)],[(1,.cells (mm W xs ys) 25),(E6 W xs ys)],2⟩ [tr,tr]<|xw_ret<|an_ret<|bs (.tup [.agg (mm W xs ys),.i 1]) (Or.inr <| Or.inr <| ⟨om,rfl⟩)
  ·
   refine xw_skip<|an<|xw_seq<|reg<|kA [(3,.i (n - 1))] 5 0 ⟨[(19,.agg [.i 255,.i (n - 1),.u 0]),(16,.u a),(15,.agg (mm W xs ys)),(7,.i 0),(6,.p 1)],[E7],2⟩ [tr,w6 (n - 1)] ?_
   by_cases h2:((1<=a / 4294967296)/\((a / 4294967296<=2)/\(a % 4294967296<W)))/\((((255:Int)=255)/\((a % 4294967296) + (n - 1) + 1<=W))\/(((255:Int)≠255)/\((a % 4294967296) + (n - 1) + 2<=W)))
   ·
    refine pc (oput_1 W xs ys a 255 (n - 1) 0 ZZ ZZ ZZ ZZ ZZ ZZ om om om (by first | omega | decide) om om) ?_
    obtain ⟨h3,h4,h5,h6,h7,h8⟩:=put_ok W xs ys a 255 (n - 1) 0 ZZ ZZ ZZ ZZ om om om (by first | omega | decide) om
    exact ka [] 4 6 [7,6] [1] [tr]<|en<|an<|xw_ret<|bs (.tup [.agg (mm W (px xs a 255 (n - 1) 0) (py ys a 255 (n - 1) 0)),.i 0]) (Or.inl <| ⟨om,om,om,rfl⟩)
   ·
    exact pc (oput_2 W xs ys a 255 (n - 1) 0 ZZ ZZ ZZ ZZ ZZ ZZ om om om (by first | omega | decide) om)<|ka [] 4 6 [7,6] [1] [tr]<|en<|an<|xw_ret<|bs (.tup [.agg (mm W xs ys),.i 2]) (Or.inr <| Or.inl <| ⟨om,om,rfl⟩)
theorem ofill_1 (W:Int)(xs ys:List Int)(a n:Int)(hp0:16<=W/\W<=4096)(hp1:(xs.length:Int)=W)(hp2:(ys.length:Int)=W)(hp3:U64s xs)(hp4:U64s ys)(hp5:U6 a)(hp6:I6 n)(hp7:1<=n/\n<=65536)(hp8:1<=a / 4294967296/\a / 4294967296<=2/\a % 4294967296<W)(hp9:(a % 4294967296) + n<=W):Pub Tryz.prog 113 [.agg (mm W xs ys),.u a,.i n] (fun rv=>rv = .tup [.agg (mm W (px xs a 255 (n - 1) 0) (py ys a 255 (n - 1) 0)),.i 0]) :=
  (ofill W xs ys a n hp0 hp1 hp2 hp3 hp4 hp5 hp6).mono vr
end Go.Proofs.YtmmfpkkamgapkaaGreat.X
