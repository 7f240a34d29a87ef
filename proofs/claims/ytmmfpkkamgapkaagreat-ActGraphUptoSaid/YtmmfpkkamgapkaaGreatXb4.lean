/- Contracts of Go functions: what each returns,for every input that its premises name; no memory of the caller is touched. Printed by a program. -/
import Derived.Test.YtmmfpkkamgapkaaGreatXb1
namespace Go.Proofs.YtmmfpkkamgapkaaGreat.X
open Go Go.RowKit
set_option linter.unusedVariables false
abbrev B3:Nat×Blk:=(1,.cells [.i 0,.nils,.nils] 25)
abbrev B4(xs:List Int)(p v:Int):=(((m64 xs):List SV)).take (p:Int).toNat++(([.u v] : List SV)).take (((m64 xs)).length - (p:Int).toNat)++(((m64 xs):List SV)).drop ((p:Int).toNat + ((([.u v] : List SV)).take (((m64 xs)).length - (p:Int).toNat)).length)
abbrev B5(ys:List Int)(p v:Int):=(((m64 ys):List SV)).take (p:Int).toNat++(([.u v] : List SV)).take (((m64 ys)).length - (p:Int).toNat)++(((m64 ys):List SV)).drop ((p:Int).toNat + ((([.u v] : List SV)).take (((m64 ys)).length - (p:Int).toNat)).length)
abbrev B6(a:Int):List SV:=[.i (a / 4294967296 - 1),.i (a % 4294967296),.t]
theorem Bb5{p:Prop}(h:p:=by first | exact decide_eq_true om | exact decide_eq_false om | (simp; done) | (simp; omega) | (simp_all; done) | (simp_all; omega) | grind):p:=h
theorem Bb4{p:Prop}(h:p:=by first | rfl | omega | (rw [ldw_1 om]; done) | (rw [ldw_2 om]; done)):p:=h
theorem Bb2{p:Prop}(h:p:=by constructor <;> omega):p:=h
theorem Bb1{p:Prop}(h:p:=by first | rfl | omega | (rw [stx_1 om]; done) | (rw [stx_2 om]; done) | (rw [sty_1 om]; done) | (rw [sty_2 om]; done)):p:=h
theorem wthere (W:Int)(xs ys:List Int)(a n:Int)(hp0:16<=W/\W<=4096)(hp1:(xs.length:Int)=W)(hp2:(ys.length:Int)=W)(hp3:U64s xs)(hp4:U64s ys)(hp5:U6 a)(hp6:I6 n):Pub Tryz.prog 114 [.agg (mm W xs ys),.u a,.i n] (fun rv=>((1<=a / 4294967296/\a / 4294967296<=2/\a % 4294967296<W/\0<=n/\a % 4294967296 + n<=W)/\rv = .tup (B6 a))\/((¬ (1<=a / 4294967296/\a / 4294967296<=2/\a % 4294967296<W/\0<=n/\a % 4294967296 + n<=W))/\rv = .tup [.i 0,.i 0,.f])):=by
 refine pub_of TT_ok Tryz.func114 rfl (by decide) nk kr<|kb [] 4 [8,7,6,3,1,2] [0] []<|xw_seq<|reg<|ka [] 1 0 [13,8,7,6,3,2] [0] [] ?_
 by_cases h0:1<=a / 4294967296/\a / 4294967296<=2
 ·
  refine pc (pwhere_1 a ZZ om)<|ka [] 7 2 [11,10,9,8,7,6,3,2] [0] []<|en<|an<|xw_seq<|xw_seq<|reg<|kA [(7,.bool (decide (W<=(a % 4294967296))))] 10 0 ⟨[(27,.bool (decide (W<=(a % 4294967296)))),(10,.i (a % 4294967296)),(9,.i (a / 4294967296 - 1)),(8,.f),(7,.i 0),(6,.i 0),(3,.p 0),(2,.i n)],[(0,.cells (mm W xs ys) 171)],1⟩ [tr,sf (decide (W<=(a % 4294967296))),tr]<|splitr 27 (x:=(decide (W<=(a % 4294967296)))) kr (fun h1=>?_) (fun h1=>?_)
  ·
   replace h1:W<=(a % 4294967296):=of_decide_eq_true h1
   exact ka [] 8 10 [35,10,9,8,7,6] [] [tr]<|en<|an<|ct<|kb [] 3 [8,7,6,10,9] [] []<|xw_ret<|an_ret<|bs (.tup [.i 0,.i 0,.f]) (Or.inr <| ⟨om,rfl⟩)
  ·
   replace h1:¬ (W<=(a % 4294967296)):=of_decide_eq_false h1
   refine ka [] 5 10 [32,29,28,27,10,9,8,7,6] [] [tr] ?_
   by_cases h2:0<=(a % 4294967296)/\0<=n/\(a % 4294967296) + n<=W
   ·
    exact pc (fits_1 (a % 4294967296) n W om ZZ om ZZ)<|ka [] 2 16 [35,10,9,8,7,6] [] [tr]<|en<|an<|cf<|xw_skip<|an<|kb [] 5 [8,7,6] [] []<|xw_ret<|bs (.tup (B6 a)) (Or.inl <| ⟨om,rfl⟩)
   ·
    exact pc (fits_2 (a % 4294967296) n W om ZZ om ZZ)<|ka [] 2 16 [35,10,9,8,7,6] [] [tr]<|en<|an<|ct<|kb [] 3 [8,7,6,10,9] [] []<|xw_ret<|an_ret<|bs (.tup [.i 0,.i 0,.f]) (Or.inr <| ⟨om,rfl⟩)
 ·
  exact pc (pwhere_2 a ZZ om)<|ka [] 7 2 [11,10,9,8,7,6,3,2] [0] []<|en<|an<|xw_seq<|kB [] 18 ⟨[(35,.t),(10,.i 0),(9,.i 0),(8,.f),(7,.i 0),(6,.i 0)],[],1⟩ [tr,tr]<|ct<|kb [] 3 [8,7,6,10,9] [] []<|xw_ret<|an_ret<|bs (.tup [.i 0,.i 0,.f]) (Or.inr <| ⟨om,rfl⟩)
theorem wthere_1 (W:Int)(xs ys:List Int)(a n:Int)(hp0:16<=W/\W<=4096)(hp1:(xs.length:Int)=W)(hp2:(ys.length:Int)=W)(hp3:U64s xs)(hp4:U64s ys)(hp5:U6 a)(hp6:I6 n)(hp7:1<=a / 4294967296/\a / 4294967296<=2/\a % 4294967296<W/\0<=n/\a % 4294967296 + n<=W):Pub Tryz.prog 114 [.agg (mm W xs ys),.u a,.i n] (fun rv=>rv = .tup (B6 a)) :=
  (wthere W xs ys a n hp0 hp1 hp2 hp3 hp4 hp5 hp6).mono vr
theorem wthere_2 (W:Int)(xs ys:List Int)(a n:Int)(hp0:16<=W/\W<=4096)(hp1:(xs.length:Int)=W)(hp2:(ys.length:Int)=W)(hp3:U64s xs)(hp4:U64s ys)(hp5:U6 a)(hp6:I6 n)(hp7:¬ (1<=a / 4294967296/\a / 4294967296<=2/\a % 4294967296<W/\0<=n/\a % 4294967296 + n<=W)):Pub Tryz.prog 114 [.agg (mm W xs ys),.u a,.i n] (fun rv=>rv = .tup [.i 0,.i 0,.f]) :=
  (wthere W xs ys a n hp0 hp1 hp2 hp3 hp4 hp5 hp6).mono vr
theorem load (W:Int)(xs ys:List Int)(a:Int)(hp0:16<=W/\W<=4096)(hp1:(xs.length:Int)=W)(hp2:(ys.length:Int)=W)(hp3:U64s xs)(hp4:U64s ys)(hp5:U6 a):Pub Tryz.prog 99 [.agg (mm W xs ys),.u a] (fun rv=>((1<=a / 4294967296/\a / 4294967296<=2/\a % 4294967296<W)/\rv = .tup [.u (ldw xs ys a),.i 0])\/((¬ (1<=a / 4294967296/\a / 4294967296<=2/\a % 4294967296<W))/\rv = .tup [.u 0,.i 2])):=by
 refine pub_of TT_ok Tryz.func99 rfl (by decide) nk kr<|kb [] 3 [5,4,2,1] [0] []<|kb [] 4 [6,5,4,2,1] [0] [tr]<|xw_seq<|reg<|ka [] 2 0 [15,14,5,4,2] [0] [] ?_
 by_cases h0:(1<=a / 4294967296)/\((a / 4294967296<=2)/\((a % 4294967296<W)/\(((0:Int)<=1)/\(a % 4294967296 + 1<=W))))
 ·
  refine pc (wthere_1 W xs ys a 1 ZZ ZZ ZZ ZZ ZZ ZZ om om)<|kA [] 7 3 ⟨[(9,.t),(8,.i (a % 4294967296)),(7,.i (a / 4294967296 - 1)),(5,.i 0),(4,.u 0),(2,.p 0)],[(0,.cells (mm W xs ys) 25)],1⟩ []<|en<|an<|xw_seq<|kb [] 2 [21,8,7,5,4,2] [0] []<|cf<|xw_skip<|an<|xw_seq<|reg<|ka [] 2 0 [23,22,8,5,4] [0] [] ?_
  by_cases h1:(a / 4294967296 - 1)=0
  ·
   refine seti 22 (k:=.i64) (x:=(a / 4294967296 - 1)) (y:=0) kr om<|ka [(5,.u (ix xs (a % 4294967296)))] 4 2 [27,5,4] [] [⟨(0:Int)<=0/\0<((2:Nat):Int),Bb2⟩,tr,x6 .u64 xs (a % 4294967296)] ?_
   have h2:U6 (ix xs (a % 4294967296)):=U64s.ix rq _
   exact kA [] 3 6 ⟨[(5,.i 0),(4,.u (ix xs (a % 4294967296)))],[],1⟩ [tr]<|en<|an<|xw_ret<|br (.tup [.u (ix xs (a % 4294967296)),.i 0]) (.tup [.u (ldw xs ys a),.i 0]) (wk_s [(0,⟨((ix xs (a % 4294967296)):Int)=(ldw xs ys a),Bb4⟩)]) (Or.inl <| ⟨om,rfl⟩)
  ·
   refine seti 22 (k:=.i64) (x:=(a / 4294967296 - 1)) (y:=1) kr om<|ka [(5,.u (ix ys (a % 4294967296)))] 4 2 [27,5,4] [] [⟨(0:Int)<=1/\1<((2:Nat):Int),Bb2⟩,tr,x6 .u64 ys (a % 4294967296)] ?_
   have h2:U6 (ix ys (a % 4294967296)):=U64s.ix rq _
   exact kA [] 3 6 ⟨[(5,.i 0),(4,.u (ix ys (a % 4294967296)))],[],1⟩ [tr]<|en<|an<|xw_ret<|br (.tup [.u (ix ys (a % 4294967296)),.i 0]) (.tup [.u (ldw xs ys a),.i 0]) (wk_s [(0,⟨((ix ys (a % 4294967296)):Int)=(ldw xs ys a),Bb4⟩)]) (Or.inl <| ⟨om,rfl⟩)
 ·
  exact pc (wthere_2 W xs ys a 1 ZZ ZZ ZZ ZZ ZZ ZZ om om)<|kA [] 7 3 ⟨[(9,.f),(8,.i 0),(7,.i 0),(5,.i 0),(4,.u 0),(2,.p 0)],[(0,.cells (mm W xs ys) 25)],1⟩ []<|en<|an<|xw_seq<|kb [] 2 [21,8,7,5,4,2] [0] []<|ct<|kb [] 2 [5,4,8,7,2] [0] []<|xw_ret<|an_ret<|bs (.tup [.u 0,.i 2]) (Or.inr <| ⟨om,rfl⟩)
theorem load_1 (W:Int)(xs ys:List Int)(a:Int)(hp0:16<=W/\W<=4096)(hp1:(xs.length:Int)=W)(hp2:(ys.length:Int)=W)(hp3:U64s xs)(hp4:U64s ys)(hp5:U6 a)(hp6:1<=a / 4294967296/\a / 4294967296<=2/\a % 4294967296<W):Pub Tryz.prog 99 [.agg (mm W xs ys),.u a] (fun rv=>rv = .tup [.u (ldw xs ys a),.i 0]) :=
  (load W xs ys a hp0 hp1 hp2 hp3 hp4 hp5).mono vr
theorem load_2 (W:Int)(xs ys:List Int)(a:Int)(hp0:16<=W/\W<=4096)(hp1:(xs.length:Int)=W)(hp2:(ys.length:Int)=W)(hp3:U64s xs)(hp4:U64s ys)(hp5:U6 a)(hp6:¬ (1<=a / 4294967296/\a / 4294967296<=2/\a % 4294967296<W)):Pub Tryz.prog 99 [.agg (mm W xs ys),.u a] (fun rv=>rv = .tup [.u 0,.i 2]) :=
  (load W xs ys a hp0 hp1 hp2 hp3 hp4 hp5).mono vr
theorem rthere (W:Int)(xs ys:List Int)(a:Int)(hp0:16<=W/\W<=4096)(hp1:(xs.length:Int)=W)(hp2:(ys.length:Int)=W)(hp3:U64s xs)(hp4:U64s ys)(hp5:U6 a):Pub Tryz.prog 75 [.agg (mm W xs ys),.u a] (fun rv=>((1<=a / 4294967296/\a / 4294967296<=2/\a % 4294967296<W)/\rv = .t)\/((¬ (1<=a / 4294967296/\a / 4294967296<=2/\a % 4294967296<W))/\rv = .f)):=by
 refine pub_of TT_ok Tryz.func75 rfl (by decide) nk kr<|kb [] 2 [4,2,1] [0] []<|xw_seq<|reg<|ka [] 1 0 [9,4,2] [0] [] ?_
 by_cases h0:1<=a / 4294967296/\a / 4294967296<=2
 ·
  refine pc (rwhere_1 a ZZ om)<|ka [] 7 2 [7,6,5,4,2] [0] []<|en<|an<|xw_seq<|reg<|kA [(5,.bool (decide ((a % 4294967296)<W)))] 8 0 ⟨[(21,.bool (decide ((a % 4294967296)<W))),(6,.i (a % 4294967296)),(5,.i (a / 4294967296 - 1)),(4,.f),(2,.p 0)],[(0,.cells (mm W xs ys) 25)],1⟩ [tr,sf (decide ((a % 4294967296)<W)),tr]<|splitr 21 (x:=(decide ((a % 4294967296)<W))) kr (fun h1=>?_) (fun h1=>?_)
  ·
   replace h1:(a % 4294967296)<W:=of_decide_eq_true h1
   refine ka [] 3 8 [24,23,22,21,4] [0] [] ?_
   by_cases h2:(a / 4294967296 - 1)=0
   ·
    exact seti 23 (k:=.i64) (x:=(a / 4294967296 - 1)) (y:=0) kr om<|ka [(13,.i ((xs).length:Int)),(14,.t)] 6 11 [4] [] [⟨(0:Int)<=0/\0<((2:Nat):Int),Bb2⟩,tr,l6 (SV.int .u64) xs,dT ((a % 4294967296)<((xs).length:Int)),tr]<|en<|an<|xw_ret<|bs (.t) (Or.inl <| ⟨om,rfl⟩)
   ·
    exact seti 23 (k:=.i64) (x:=(a / 4294967296 - 1)) (y:=1) kr om<|ka [(13,.i ((ys).length:Int)),(14,.t)] 6 11 [4] [] [⟨(0:Int)<=1/\1<((2:Nat):Int),Bb2⟩,tr,l6 (SV.int .u64) ys,dT ((a % 4294967296)<((ys).length:Int)),tr]<|en<|an<|xw_ret<|bs (.t) (Or.inl <| ⟨om,rfl⟩)
  ·
   replace h1:¬ ((a % 4294967296)<W):=of_decide_eq_false h1
   exact ka [] 9 8 [4] [] [tr]<|en<|an<|xw_ret<|bs (.f) (Or.inr <| ⟨om,rfl⟩)
 ·
  exact pc (rwhere_2 a ZZ om)<|ka [] 7 2 [7,6,5,4,2] [0] []<|en<|an<|kB [] 17 ⟨[(4,.f)],[],1⟩ [tr,tr]<|xw_ret<|bs (.f) (Or.inr <| ⟨om,rfl⟩)
theorem rthere_1 (W:Int)(xs ys:List Int)(a:Int)(hp0:16<=W/\W<=4096)(hp1:(xs.length:Int)=W)(hp2:(ys.length:Int)=W)(hp3:U64s xs)(hp4:U64s ys)(hp5:U6 a)(hp6:1<=a / 4294967296/\a / 4294967296<=2/\a % 4294967296<W):Pub Tryz.prog 75 [.agg (mm W xs ys),.u a] (fun rv=>rv = .t) :=
  (rthere W xs ys a hp0 hp1 hp2 hp3 hp4 hp5).mono vr
theorem rthere_2 (W:Int)(xs ys:List Int)(a:Int)(hp0:16<=W/\W<=4096)(hp1:(xs.length:Int)=W)(hp2:(ys.length:Int)=W)(hp3:U64s xs)(hp4:U64s ys)(hp5:U6 a)(hp6:¬ (1<=a / 4294967296/\a / 4294967296<=2/\a % 4294967296<W)):Pub Tryz.prog 75 [.agg (mm W xs ys),.u a] (fun rv=>rv = .f) :=
  (rthere W xs ys a hp0 hp1 hp2 hp3 hp4 hp5).mono vr
theorem rload (W:Int)(xs ys:List Int)(a:Int)(hp0:16<=W/\W<=4096)(hp1:(xs.length:Int)=W)(hp2:(ys.length:Int)=W)(hp3:U64s xs)(hp4:U64s ys)(hp5:U6 a):Pub Tryz.prog 43 [.agg (mm W xs ys),.u a] (fun rv=>((1<=a / 4294967296/\a / 4294967296<=2/\a % 4294967296<W)/\rv = .tup [.u (ldw xs ys a),.i 0])\/((¬ (1<=a / 4294967296/\a / 4294967296<=2/\a % 4294967296<W))/\rv = .tup [.u 0,.i 2])):=by
 refine pub_of TT_ok Tryz.func43 rfl (by decide) nk kr<|kb [] 3 [5,4,2,1] [0] []<|xw_seq<|reg<|ka [] 2 0 [11,10,5,4,2,1] [0] [tr] ?_
 by_cases h0:1<=a / 4294967296/\a / 4294967296<=2/\a % 4294967296<W
 ·
  refine pc (rthere_1 W xs ys a ZZ ZZ ZZ ZZ ZZ ZZ om)<|ka [] 1 3 [6,5,4,2,1] [0] []<|en<|an<|xw_seq<|kB [] 2 ⟨[(14,.f),(5,.i 0),(4,.u 0),(2,.p 0),(1,.u a)],[(0,.cells (mm W xs ys) 25)],1⟩ []<|cf<|xw_skip<|an<|xw_seq<|reg<|ka [] 1 0 [16,5,4,2] [0] []<|pc (rwhere_1 a ZZ om)<|ka [] 7 2 [8,7,5,4,2] [0] []<|en<|an<|xw_seq<|reg<|ka [] 2 0 [22,21,8,5,4] [0] [] ?_
  by_cases h1:(a / 4294967296 - 1)=0
  ·
   refine seti 21 (k:=.i64) (x:=(a / 4294967296 - 1)) (y:=0) kr om<|kA [(5,.u (ix xs (a % 4294967296)))] 4 2 ⟨[(26,.elt (.u (ix xs (a % 4294967296)))),(5,.i 0),(4,.u 0)],[],1⟩ [⟨(0:Int)<=0/\0<((2:Nat):Int),Bb2⟩,tr,x6 .u64 xs (a % 4294967296)] ?_
   have h2:U6 (ix xs (a % 4294967296)):=U64s.ix rq _
   exact ka [] 3 6 [5,4] [] [tr]<|en<|an<|xw_ret<|br (.tup [.u (ix xs (a % 4294967296)),.i 0]) (.tup [.u (ldw xs ys a),.i 0]) (wk_s [(0,⟨((ix xs (a % 4294967296)):Int)=(ldw xs ys a),Bb4⟩)]) (Or.inl <| ⟨om,rfl⟩)
  ·
   refine seti 21 (k:=.i64) (x:=(a / 4294967296 - 1)) (y:=1) kr om<|kA [(5,.u (ix ys (a % 4294967296)))] 4 2 ⟨[(26,.elt (.u (ix ys (a % 4294967296)))),(5,.i 0),(4,.u 0)],[],1⟩ [⟨(0:Int)<=1/\1<((2:Nat):Int),Bb2⟩,tr,x6 .u64 ys (a % 4294967296)] ?_
   have h2:U6 (ix ys (a % 4294967296)):=U64s.ix rq _
   exact ka [] 3 6 [5,4] [] [tr]<|en<|an<|xw_ret<|br (.tup [.u (ix ys (a % 4294967296)),.i 0]) (.tup [.u (ldw xs ys a),.i 0]) (wk_s [(0,⟨((ix ys (a % 4294967296)):Int)=(ldw xs ys a),Bb4⟩)]) (Or.inl <| ⟨om,rfl⟩)
 ·
  exact pc (rthere_2 W xs ys a ZZ ZZ ZZ ZZ ZZ ZZ om)<|ka [] 1 3 [6,5,4,2,1] [0] []<|en<|an<|xw_seq<|kB [] 2 ⟨[(14,.t),(5,.i 0),(4,.u 0),(2,.p 0),(1,.u a)],[(0,.cells (mm W xs ys) 25)],1⟩ []<|ct<|kb [] 2 [5,4,2,1] [0] []<|xw_ret<|an_ret<|bs (.tup [.u 0,.i 2]) (Or.inr <| ⟨om,rfl⟩)
theorem rload_1 (W:Int)(xs ys:List Int)(a:Int)(hp0:16<=W/\W<=4096)(hp1:(xs.length:Int)=W)(hp2:(ys.length:Int)=W)(hp3:U64s xs)(hp4:U64s ys)(hp5:U6 a)(hp6:1<=a / 4294967296/\a / 4294967296<=2/\a % 4294967296<W):Pub Tryz.prog 43 [.agg (mm W xs ys),.u a] (fun rv=>rv = .tup [.u (ldw xs ys a),.i 0]) :=
  (rload W xs ys a hp0 hp1 hp2 hp3 hp4 hp5).mono vr
theorem rload_2 (W:Int)(xs ys:List Int)(a:Int)(hp0:16<=W/\W<=4096)(hp1:(xs.length:Int)=W)(hp2:(ys.length:Int)=W)(hp3:U64s xs)(hp4:U64s ys)(hp5:U6 a)(hp6:¬ (1<=a / 4294967296/\a / 4294967296<=2/\a % 4294967296<W)):Pub Tryz.prog 43 [.agg (mm W xs ys),.u a] (fun rv=>rv = .tup [.u 0,.i 2]) :=
  (rload W xs ys a hp0 hp1 hp2 hp3 hp4 hp5).mono vr
set_option maxHeartbeats 8000000 in
theorem wwith (W:Int)(xs ys:List Int)(s p v:Int)(hp0:16<=W/\W<=4096)(hp1:(xs.length:Int)=W)(hp2:(ys.length:Int)=W)(hp3:U64s xs)(hp4:U64s ys)(hp5:0<=s/\s<=1)(hp6:0<=p/\p<W)(hp7:U6 v):Pub Tryz.prog 122 [.agg (mm W xs ys),.i s,.i p,.sl false 1 [.u v]] (fun rv=>((s=0)/\rv = .agg (mm W (st xs p v) ys))\/((s=1)/\rv = .agg (mm W xs (st ys p v)))):=by
 refine pub_of TT_ok Tryz.func122 rfl (by decide) nk kr<|kb [] 2 [8,4,1,2,3] [1,0] []<|kb [] 4 [9,8,1,2,3] [2,1] [tr,tr]<|xw_seq<|reg<|ka [] 3 0 [14,13,12,9,8,1,2,3] [2,1] [] ?_
 by_cases h0:s=0
 ·
  refine seti 13 (k:=.i64) (x:=s) (y:=0) kr om<|kA [] 2 3 ⟨[(16,.sl false 1 (m64 xs)),(12,.i s),(9,.p 2),(8,.p 1),(1,.i s),(2,.i p),(3,.sl false 1 [.u v])],[(2,.cells (mm W xs ys) 25),B3],3⟩ [⟨(0:Int)<=0/\0<((2:Nat):Int),Bb2⟩,tr]<|callx (f:=124) (args:=[.sl false 1 (m64 xs)]) (d:=(some 17)) kr (xcall_of TT_ok Tryz.func124 rfl (by decide) nk ?_)
  refine kb [] 1 [2,0] [2,1] []<|xw_seq<|kb [] 2 [4,2,0] [2,1] [⟨((m64 xs))≠[],(ne_map lw)⟩]<|cf<|xw_skip<|an<|xw_seq<|reg<|ka [] 3 0 [7,2] [4,2,1] [⟨(∀ y∈((m64 xs):List SV),ElemOk y)/\(false=true->1<=((m64 xs):List SV).length/\∀ x∈([] : List SV),ElemOk x)/\(([] : List SV).length + ((m64 xs):List SV).length) * 8<=140737488355328/\([] : List SV).length + ((m64 xs):List SV).length<=4611686018427387904,⟨elem_map,(fun h=>by cases h),lw,lw⟩⟩]<|setr 4 (z:=1) (E:=52) (L:=(([])++((m64 xs)))) (L':=(m64 xs)) kr nil_app<|kA [] 1 3 ⟨[(2,.own 4)],[(4,.row 1 52 (m64 xs)),(2,.cells (mm W xs ys) 25),B3],5⟩ []<|en<|an<|xw_ret<|⟨.own 4,kr,?_⟩
  exact ka [] 1 6 [18,17,12,9,8,1,2,3] [4,2,1] []<|seti 12 (k:=.i64) (x:=s) (y:=0) kr om<|ka [] 2 7 [9,8,1,2,3] [4,2,1] [⟨(0:Int)<=0/\0<((2:Nat):Int),Bb2⟩,tr]<|en<|an<|xw_seq<|reg<|kA [] 2 0 ⟨[(21,.loc 2 1),(20,.i s),(9,.p 2),(8,.p 1),(2,.i p),(3,.sl false 1 [.u v])],[(4,.row 1 52 (m64 xs)),(2,.cells [.i W,.own 4,.sl false 1 (m64 ys)] 25),B3],5⟩ []<|seti 20 (k:=.i64) (x:=s) (y:=0) kr om<|ka [(7,.i 1)] 6 2 [9,8] [4,2,1] [⟨(0:Int)<=0/\0<((2:Nat):Int),Bb2⟩,tr,⟨(0:Int)<=p/\p<=((((m64 xs)).length:Nat):Int)/\((m64 xs))≠[],⟨om,lw,ne_map lw⟩⟩,⟨(((((([.u v] : List SV)).take (((m64 xs)).length - (p:Int).toNat)).length:Nat):Int)=1/\(p:Int).toNat + (((m64 xs)).length - (p:Int).toNat)=(((m64 xs):List SV)).length/\1<=(((m64 xs)).length - (p:Int).toNat)/\1<=(([.u v] : List SV)).length/\∀ y∈(([.u v] : List SV)),ElemOk y),⟨by simp; omega,by simp; omega,by simp; omega,by simp,by intro y hy; simp at hy; subst hy; rfl⟩⟩]<|en<|an<|kb [] 2 [8] [4,1] [tr,tr]<|xw_ret<|bk_ret (.agg [.i W,.own 4,.sl false 1 (m64 ys)]) (.agg [.i W,.sl false 1 (B4 xs p v),.sl false 1 (m64 ys)]) (.agg (mm W (st xs p v) ys)) kr kr (wk_s [(2,⟨(B4 xs p v)=(m64 (st xs p v)),(by first | rfl | omega | exact splice1 om om)⟩)]) (Or.inl <| ⟨om,rfl⟩)
 ·
  refine seti 13 (k:=.i64) (x:=s) (y:=1) kr om<|kA [] 2 3 ⟨[(16,.sl false 1 (m64 ys)),(12,.i s),(9,.p 2),(8,.p 1),(1,.i s),(2,.i p),(3,.sl false 1 [.u v])],[(2,.cells (mm W xs ys) 25),B3],3⟩ [⟨(0:Int)<=1/\1<((2:Nat):Int),Bb2⟩,tr]<|callx (f:=124) (args:=[.sl false 1 (m64 ys)]) (d:=(some 17)) kr (xcall_of TT_ok Tryz.func124 rfl (by decide) nk ?_)
  refine kb [] 1 [2,0] [2,1] []<|xw_seq<|kb [] 2 [4,2,0] [2,1] [⟨((m64 ys))≠[],(ne_map lw)⟩]<|cf<|xw_skip<|an<|xw_seq<|reg<|ka [] 3 0 [7,2] [4,2,1] [⟨(∀ y∈((m64 ys):List SV),ElemOk y)/\(false=true->1<=((m64 ys):List SV).length/\∀ x∈([] : List SV),ElemOk x)/\(([] : List SV).length + ((m64 ys):List SV).length) * 8<=140737488355328/\([] : List SV).length + ((m64 ys):List SV).length<=4611686018427387904,⟨elem_map,(fun h=>by cases h),lw,lw⟩⟩]<|setr 4 (z:=1) (E:=52) (L:=(([])++((m64 ys)))) (L':=(m64 ys)) kr nil_app<|kA [] 1 3 ⟨[(2,.own 4)],[(4,.row 1 52 (m64 ys)),(2,.cells (mm W xs ys) 25),B3],5⟩ []<|en<|an<|xw_ret<|⟨.own 4,kr,?_⟩
  exact ka [] 1 6 [18,17,12,9,8,1,2,3] [4,2,1] []<|seti 12 (k:=.i64) (x:=s) (y:=1) kr om<|ka [] 2 7 [9,8,1,2,3] [4,2,1] [⟨(0:Int)<=1/\1<((2:Nat):Int),Bb2⟩,tr]<|en<|an<|xw_seq<|reg<|kA [] 2 0 ⟨[(21,.loc 2 1),(20,.i s),(9,.p 2),(8,.p 1),(2,.i p),(3,.sl false 1 [.u v])],[(4,.row 1 52 (m64 ys)),(2,.cells [.i W,.sl false 1 (m64 xs),.own 4] 25),B3],5⟩ []<|seti 20 (k:=.i64) (x:=s) (y:=1) kr om<|ka [(7,.i 1)] 6 2 [9,8] [4,2,1] [⟨(0:Int)<=1/\1<((2:Nat):Int),Bb2⟩,tr,⟨(0:Int)<=p/\p<=((((m64 ys)).length:Nat):Int)/\((m64 ys))≠[],⟨om,lw,ne_map lw⟩⟩,⟨(((((([.u v] : List SV)).take (((m64 ys)).length - (p:Int).toNat)).length:Nat):Int)=1/\(p:Int).toNat + (((m64 ys)).length - (p:Int).toNat)=(((m64 ys):List SV)).length/\1<=(((m64 ys)).length - (p:Int).toNat)/\1<=(([.u v] : List SV)).length/\∀ y∈(([.u v] : List SV)),ElemOk y),⟨by simp; omega,by simp; omega,by simp; omega,by simp,by intro y hy; simp at hy; subst hy; rfl⟩⟩]<|en<|an<|kb [] 2 [8] [4,1] [tr,tr]<|xw_ret<|bk_ret (.agg [.i W,.sl false 1 (m64 xs),.own 4]) (.agg [.i W,.sl false 1 (m64 xs),.sl false 1 (B5 ys p v)]) (.agg (mm W xs (st ys p v))) kr kr (wk_s [(4,⟨(B5 ys p v)=(m64 (st ys p v)),(by first | rfl | omega | exact splice1 om om)⟩)]) (Or.inr <| ⟨om,rfl⟩)
theorem wwith_1 (W:Int)(xs ys:List Int)(s p v:Int)(hp0:16<=W/\W<=4096)(hp1:(xs.length:Int)=W)(hp2:(ys.length:Int)=W)(hp3:U64s xs)(hp4:U64s ys)(hp5:0<=s/\s<=1)(hp6:0<=p/\p<W)(hp7:U6 v)(hp8:s=0):Pub Tryz.prog 122 [.agg (mm W xs ys),.i s,.i p,.sl false 1 [.u v]] (fun rv=>rv = .agg (mm W (st xs p v) ys)) :=
  (wwith W xs ys s p v hp0 hp1 hp2 hp3 hp4 hp5 hp6 hp7).mono vr
theorem wwith_2 (W:Int)(xs ys:List Int)(s p v:Int)(hp0:16<=W/\W<=4096)(hp1:(xs.length:Int)=W)(hp2:(ys.length:Int)=W)(hp3:U64s xs)(hp4:U64s ys)(hp5:0<=s/\s<=1)(hp6:0<=p/\p<W)(hp7:U6 v)(hp8:s=1):Pub Tryz.prog 122 [.agg (mm W xs ys),.i s,.i p,.sl false 1 [.u v]] (fun rv=>rv = .agg (mm W xs (st ys p v))) :=
  (wwith W xs ys s p v hp0 hp1 hp2 hp3 hp4 hp5 hp6 hp7).mono vr
theorem store (W:Int)(xs ys:List Int)(a v:Int)(hp0:16<=W/\W<=4096)(hp1:(xs.length:Int)=W)(hp2:(ys.length:Int)=W)(hp3:U64s xs)(hp4:U64s ys)(hp5:U6 a)(hp6:U6 v):Pub Tryz.prog 107 [.agg (mm W xs ys),.u a,.u v] (fun rv=>((1<=a / 4294967296/\a / 4294967296<=2/\a % 4294967296<W)/\rv = .tup [.agg (mm W (stx xs a v) (sty ys a v)),.i 0])\/((¬ (1<=a / 4294967296/\a / 4294967296<=2/\a % 4294967296<W))/\rv = .tup [.agg (mm W xs ys),.i 2])):=by
 refine pub_of TT_ok Tryz.func107 rfl (by decide) nk kr<|kb [] 3 [7,6,3,1,2] [1,0] []<|xw_seq<|reg<|ka [] 3 0 [14,13,7,6,3,2] [1,0] [tr] ?_
 by_cases h0:(1<=a / 4294967296)/\((a / 4294967296<=2)/\((a % 4294967296<W)/\(((0:Int)<=1)/\(a % 4294967296 + 1<=W))))
 ·
  refine pc (wthere_1 W xs ys a 1 ZZ ZZ ZZ ZZ ZZ ZZ om om)<|ka [] 7 4 [10,9,8,7,6,3,2] [1,0] []<|en<|an<|xw_seq<|kB [] 2 ⟨[(20,.f),(9,.i (a % 4294967296)),(8,.i (a / 4294967296 - 1)),(7,.i 0),(6,.p 1),(3,.p 0),(2,.u v)],[B3,(0,.cells (mm W xs ys) 25)],2⟩ []<|cf<|xw_skip<|an<|xw_seq<|reg<|ka [(5,.t)] 6 0 [27,25,24,23,7,6] [1] [tr] ?_
  by_cases h1:(a / 4294967296 - 1)=0
  ·
   exact pc (wwith_1 W xs ys (a / 4294967296 - 1) (a % 4294967296) v ZZ ZZ ZZ ZZ ZZ om om ZZ ZZ)<|ka [] 2 7 [7,6] [1] [tr]<|en<|an<|xw_ret<|br (.tup [.agg (mm W (st xs (a % 4294967296) v) ys),.i 0]) (.tup [.agg (mm W (stx xs a v) (sty ys a v)),.i 0]) (wk_s [(2,⟨(m64 (st xs (a % 4294967296) v))=(m64 (stx xs a v)),Bb1⟩),(4,⟨(m64 ys)=(m64 (sty ys a v)),Bb1⟩)]) (Or.inl <| ⟨om,rfl⟩)
  ·
   exact pc (wwith_2 W xs ys (a / 4294967296 - 1) (a % 4294967296) v ZZ ZZ ZZ ZZ ZZ om om ZZ om)<|ka [] 2 7 [7,6] [1] [tr]<|en<|an<|xw_ret<|br (.tup [.agg (mm W xs (st ys (a % 4294967296) v)),.i 0]) (.tup [.agg (mm W (stx xs a v) (sty ys a v)),.i 0]) (wk_s [(2,⟨(m64 xs)=(m64 (stx xs a v)),Bb1⟩),(4,⟨(m64 (st ys (a % 4294967296) v))=(m64 (sty ys a v)),Bb1⟩)]) (Or.inl <| ⟨om,rfl⟩)
 ·
  exact pc (wthere_2 W xs ys a 1 ZZ ZZ ZZ ZZ ZZ ZZ om om)<|ka [] 7 4 [10,9,8,7,6,3,2] [1,0] []<|en<|an<|xw_seq<|kB [] 2 ⟨[(20,.t),(9,.i 0),(8,.i 0),(7,.i 0),(6,.p 1),(3,.p 0),(2,.u v)],[B3,(0,.cells (mm W xs ys) 25)],2⟩ []<|ct<|kb [] 3 [7,9,8,6,3,2] [1,0] [tr,tr]<|xw_ret<|an_ret<|bs (.tup [.agg (mm W xs ys),.i 2]) (Or.inr <| ⟨om,rfl⟩)
theorem store_1 (W:Int)(xs ys:List Int)(a v:Int)(hp0:16<=W/\W<=4096)(hp1:(xs.length:Int)=W)(hp2:(ys.length:Int)=W)(hp3:U64s xs)(hp4:U64s ys)(hp5:U6 a)(hp6:U6 v)(hp7:1<=a / 4294967296/\a / 4294967296<=2/\a % 4294967296<W):Pub Tryz.prog 107 [.agg (mm W xs ys),.u a,.u v] (fun rv=>rv = .tup [.agg (mm W (stx xs a v) (sty ys a v)),.i 0]) :=
  (store W xs ys a v hp0 hp1 hp2 hp3 hp4 hp5 hp6).mono vr
theorem rmright (W:Int)(xs ys:List Int)(hp0:I6 W):Pub Tryz.prog 40 [.agg (mm W xs ys)] (fun rv=>((16<=W/\W<=4096/\(xs.length:Int)=W/\(ys.length:Int)=W)/\rv = .t)\/((¬ (16<=W/\W<=4096/\(xs.length:Int)=W/\(ys.length:Int)=W))/\rv = .f)):=by
 refine pub_of TT_ok Tryz.func40 rfl (by decide) nk kr<|kb [] 2 [2,1] [0] []<|xw_seq<|reg<|ka [(2,.bool (decide (16<=W)))] 4 0 [6,2,1] [0] [tr,sf (decide (16<=W))]<|splitr 6 (x:=(decide (16<=W))) kr (fun h0=>?_) (fun h0=>?_)
 ·
  replace h0:16<=W:=of_decide_eq_true h0
  refine ka [(6,.bool (decide (W<=4096)))] 5 4 [11,2,1] [0] [tr,sf (decide (W<=4096)),tr]<|splitr 11 (x:=(decide (W<=4096))) kr (fun h1=>?_) (fun h1=>?_)
  ·
   replace h1:W<=4096:=of_decide_eq_true h1
   refine kA [(12,.i ((xs).length:Int)),(15,.bool (((xs).length:Int) == W))] 9 9 ⟨[(20,.bool (((xs).length:Int) == W)),(2,.f),(1,.p 0)],[(0,.cells (mm W xs ys) 25)],1⟩ [⟨(0:Int)<=0/\0<((2:Nat):Int),Bb2⟩,tr,l6 (SV.int .u64) xs,tr,sf (((xs).length:Int) == W),tr]<|splitr 20 (x:=(((xs).length:Int) == W)) kr (fun h2=>?_) (fun h2=>?_)
   ·
    replace h2:(xs.length:Int)=W:=eq_of_beq h2
    refine ka [(21,.i ((ys).length:Int)),(24,.bool (((ys).length:Int) == W))] 9 18 [2] [] [⟨(0:Int)<=1/\1<((2:Nat):Int),Bb2⟩,tr,l6 (SV.int .u64) ys,tr,sf (((ys).length:Int) == W),tr]<|en<|an<|xw_ret ?_
    by_cases h3:(ys.length:Int)=W
    ·
     exact br (.bool (((ys).length:Int) == W)) (.t) (wk_s [(0,⟨(((ys).length:Int) == W)=true,Bb5⟩)]) (Or.inl <| ⟨om,rfl⟩)
    ·
     exact br (.bool (((ys).length:Int) == W)) (.f) (wk_s [(0,⟨(((ys).length:Int) == W)=false,Bb5⟩)]) (Or.inr <| ⟨om,rfl⟩)
   ·
    replace h2:(xs.length:Int)≠W:=ne_of_beq_false h2
    exact ka [] 9 18 [2] [] [tr]<|en<|an<|xw_ret<|bs (.f) (Or.inr <| ⟨om,rfl⟩)
  ·
   replace h1:¬ (W<=4096):=of_decide_eq_false h1
   exact kA [] 18 9 ⟨[(2,.f)],[],1⟩ [tr,tr]<|en<|an<|xw_ret<|bs (.f) (Or.inr <| ⟨om,rfl⟩)
 ·
  replace h0:¬ (16<=W):=of_decide_eq_false h0
  exact ka [] 23 4 [2] [] [tr,tr,tr]<|en<|an<|xw_ret<|bs (.f) (Or.inr <| ⟨om,rfl⟩)
theorem rmright_1 (W:Int)(xs ys:List Int)(hp0:I6 W)(hp1:16<=W/\W<=4096/\(xs.length:Int)=W/\(ys.length:Int)=W):Pub Tryz.prog 40 [.agg (mm W xs ys)] (fun rv=>rv = .t) :=
  (rmright W xs ys hp0).mono vr
theorem rmright_2 (W:Int)(xs ys:List Int)(hp0:I6 W)(hp1:¬ (16<=W/\W<=4096/\(xs.length:Int)=W/\(ys.length:Int)=W)):Pub Tryz.prog 40 [.agg (mm W xs ys)] (fun rv=>rv = .f) :=
  (rmright W xs ys hp0).mono vr
set_option linter.unusedVariables false
abbrev C3(xs:List Int)(a t l m:Int):=stx xs a (t * 72057594037927936 + l * 4294967296 + m)
abbrev C4(ys:List Int)(a t l m:Int):=sty ys a (t * 72057594037927936 + l * 4294967296 + m)
abbrev C5:Nat×Blk:=(2,.cells [.i 0,.nils,.nils] 25)
abbrev C6(t l m:Int):Nat×Blk:=(1,.cells [.i t,.i l,.u m] 58)
theorem Cb3{p:Prop}(h:p:=by first | exact decide_eq_true om | exact decide_eq_false om | (simp; done) | (simp; omega) | (simp_all; done) | (simp_all; omega) | grind):p:=h
theorem Cb2{p:Prop}(h:p:=by first | rfl | omega | assumption | exact congrArg _ (zx_nx om om) | exact congrArg _ (zy_nx om om)):p:=h
theorem Cb1{p:Prop}(h:p:=by first | rfl | omega | exact congrArg _ (px_fill om) | exact congrArg _ (py_fill om) | exact congrArg _ (px_eq om om) | exact congrArg _ (py_eq om om)):p:=h
theorem othere (W:Int)(xs ys:List Int)(a n:Int)(hp0:16<=W/\W<=4096)(hp1:(xs.length:Int)=W)(hp2:(ys.length:Int)=W)(hp3:U64s xs)(hp4:U64s ys)(hp5:U6 a)(hp6:I6 n):Pub Tryz.prog 103 [.agg (mm W xs ys),.u a,.i n] (fun rv=>((1<=a / 4294967296/\a / 4294967296<=2/\(a % 4294967296)<W/\0<=n/\(a % 4294967296) + n<=W)/\rv = .t)\/((¬ (1<=a / 4294967296/\a / 4294967296<=2/\(a % 4294967296)<W/\0<=n/\(a % 4294967296) + n<=W))/\rv = .f)):=by
 refine pub_of TT_ok Tryz.func103 rfl (by decide) nk kr<|kb [] 2 [6,3,1,2] [0] []<|xw_seq<|reg<|ka [] 1 0 [11,6,3,2] [0] [] ?_
 by_cases h0:1<=a / 4294967296/\a / 4294967296<=2
 ·
  refine pc (pwhere_1 a ZZ om)<|ka [] 7 2 [9,8,6,3,2] [0] []<|en<|an<|xw_seq<|reg<|kA [(5,.bool (decide ((a % 4294967296)<W)))] 8 0 ⟨[(23,.bool (decide ((a % 4294967296)<W))),(8,.i (a % 4294967296)),(6,.f),(3,.p 0),(2,.i n)],[(0,.cells (mm W xs ys) 25)],1⟩ [tr,sf (decide ((a % 4294967296)<W)),tr]<|splitr 23 (x:=(decide ((a % 4294967296)<W))) kr (fun h1=>?_) (fun h1=>?_)
  ·
   replace h1:(a % 4294967296)<W:=of_decide_eq_true h1
   refine ka [] 4 8 [27,25,24,23,6] [] [tr] ?_
   by_cases h2:0<=(a % 4294967296)/\0<=n/\(a % 4294967296) + n<=W
   ·
    exact pc (fits_1 (a % 4294967296) n W om ZZ om ZZ)<|ka [] 2 13 [6] [] [tr]<|en<|an<|xw_ret<|bs (.t) (Or.inl <| ⟨om,rfl⟩)
   ·
    exact pc (fits_2 (a % 4294967296) n W om ZZ om ZZ)<|ka [] 2 13 [6] [] [tr]<|en<|an<|xw_ret<|bs (.f) (Or.inr <| ⟨om,rfl⟩)
  ·
   replace h1:¬ ((a % 4294967296)<W):=of_decide_eq_false h1
   exact ka [] 7 8 [6] [] [tr]<|en<|an<|xw_ret<|bs (.f) (Or.inr <| ⟨om,rfl⟩)
 ·
  exact pc (pwhere_2 a ZZ om)<|ka [] 7 2 [9,8,6,3,2] [0] []<|en<|an<|kB [] 15 ⟨[(6,.f)],[],1⟩ [tr,tr]<|xw_ret<|bs (.f) (Or.inr <| ⟨om,rfl⟩)
theorem othere_1 (W:Int)(xs ys:List Int)(a n:Int)(hp0:16<=W/\W<=4096)(hp1:(xs.length:Int)=W)(hp2:(ys.length:Int)=W)(hp3:U64s xs)(hp4:U64s ys)(hp5:U6 a)(hp6:I6 n)(hp7:1<=a / 4294967296/\a / 4294967296<=2/\(a % 4294967296)<W/\0<=n/\(a % 4294967296) + n<=W):Pub Tryz.prog 103 [.agg (mm W xs ys),.u a,.i n] (fun rv=>rv = .t) :=
  (othere W xs ys a n hp0 hp1 hp2 hp3 hp4 hp5 hp6).mono vr
theorem othere_2 (W:Int)(xs ys:List Int)(a n:Int)(hp0:16<=W/\W<=4096)(hp1:(xs.length:Int)=W)(hp2:(ys.length:Int)=W)(hp3:U64s xs)(hp4:U64s ys)(hp5:U6 a)(hp6:I6 n)(hp7:¬ (1<=a / 4294967296/\a / 4294967296<=2/\(a % 4294967296)<W/\0<=n/\(a % 4294967296) + n<=W)):Pub Tryz.prog 103 [.agg (mm W xs ys),.u a,.i n] (fun rv=>rv = .f) :=
  (othere W xs ys a n hp0 hp1 hp2 hp3 hp4 hp5 hp6).mono vr
theorem rothere (W:Int)(xs ys:List Int)(a n:Int)(hp0:16<=W/\W<=4096)(hp1:(xs.length:Int)=W)(hp2:(ys.length:Int)=W)(hp3:U64s xs)(hp4:U64s ys)(hp5:U6 a)(hp6:I6 n)(hp7:0<=n):Pub Tryz.prog 45 [.agg (mm W xs ys),.u a,.i n] (fun rv=>((1<=a / 4294967296/\a / 4294967296<=2/\(a % 4294967296)<W/\0<=n/\(a % 4294967296) + n<=W)/\rv = .t)\/((¬ (1<=a / 4294967296/\a / 4294967296<=2/\(a % 4294967296)<W/\0<=n/\(a % 4294967296) + n<=W))/\rv = .f)):=by
 refine pub_of TT_ok Tryz.func45 rfl (by decide) nk kr<|kb [] 2 [6,3,1,2] [0] []<|xw_seq<|reg<|ka [] 2 0 [12,11,6,3,1,2] [0] [tr] ?_
 by_cases h0:1<=a / 4294967296/\a / 4294967296<=2/\a % 4294967296<W
 ·
  refine pc (rthere_1 W xs ys a ZZ ZZ ZZ ZZ ZZ ZZ om)<|ka [] 1 3 [7,6,3,1,2] [0] []<|en<|an<|xw_seq<|kB [] 2 ⟨[(15,.f),(6,.f),(3,.p 0),(1,.u a),(2,.i n)],[(0,.cells (mm W xs ys) 25)],1⟩ []<|cf<|xw_skip<|an<|xw_seq<|reg<|ka [] 1 0 [17,6,3,2] [0] []<|pc (rwhere_1 a ZZ om)<|ka [] 7 2 [9,6,3,2] [0] []<|en<|an<|kb [(4,.i (W - (a % 4294967296))),(5,.bool (decide (n<=(W - (a % 4294967296)))))] 7 [6] [] [tr,w6 (W - (a % 4294967296)),sf (decide (n<=(W - (a % 4294967296))))]<|xw_ret ?_
  by_cases h1:n<=(W - (a % 4294967296))
  ·
   exact br (.bool (decide (n<=(W - (a % 4294967296))))) (.t) (wk_s [(0,⟨(decide (n<=(W - (a % 4294967296))))=true,Cb3⟩)]) (Or.inl <| ⟨om,rfl⟩)
  ·
   exact br (.bool (decide (n<=(W - (a % 4294967296))))) (.f) (wk_s [(0,⟨(decide (n<=(W - (a % 4294967296))))=false,Cb3⟩)]) (Or.inr <| ⟨om,rfl⟩)
 ·
  exact pc (rthere_2 W xs ys a ZZ ZZ ZZ ZZ ZZ ZZ om)<|ka [] 1 3 [7,6,3,1,2] [0] []<|en<|an<|xw_seq<|kB [] 2 ⟨[(15,.t),(6,.f),(3,.p 0),(1,.u a),(2,.i n)],[(0,.cells (mm W xs ys) 25)],1⟩ []<|ct<|kb [] 1 [6,3,1,2] [0] []<|xw_ret<|an_ret<|bs (.f) (Or.inr <| ⟨om,rfl⟩)
theorem rothere_1 (W:Int)(xs ys:List Int)(a n:Int)(hp0:16<=W/\W<=4096)(hp1:(xs.length:Int)=W)(hp2:(ys.length:Int)=W)(hp3:U64s xs)(hp4:U64s ys)(hp5:U6 a)(hp6:I6 n)(hp7:0<=n)(hp8:1<=a / 4294967296/\a / 4294967296<=2/\(a % 4294967296)<W/\0<=n/\(a % 4294967296) + n<=W):Pub Tryz.prog 45 [.agg (mm W xs ys),.u a,.i n] (fun rv=>rv = .t) :=
  (rothere W xs ys a n hp0 hp1 hp2 hp3 hp4 hp5 hp6 hp7).mono vr
theorem rothere_2 (W:Int)(xs ys:List Int)(a n:Int)(hp0:16<=W/\W<=4096)(hp1:(xs.length:Int)=W)(hp2:(ys.length:Int)=W)(hp3:U64s xs)(hp4:U64s ys)(hp5:U6 a)(hp6:I6 n)(hp7:0<=n)(hp8:¬ (1<=a / 4294967296/\a / 4294967296<=2/\(a % 4294967296)<W/\0<=n/\(a % 4294967296) + n<=W)):Pub Tryz.prog 45 [.agg (mm W xs ys),.u a,.i n] (fun rv=>rv = .f) :=
  (rothere W xs ys a n hp0 hp1 hp2 hp3 hp4 hp5 hp6 hp7).mono vr
theorem sum1 (a n:Int)(hp0:0<=a/\a<=17179869184)(hp1:0<=n/\n<=1048576):Pub Tryz.prog 110 [.u a,.sl false 1 [.i n]] (fun rv=>rv = .u (a + n)):=by
 refine pub_of TT_ok Tryz.func110 rfl (by decide) nk kr<|kb [] 1 [4,0,1] [] []<|xw_seq<|kb [(1,.i 1)] 3 [9,8,7,4,0] [] [⟨((([.i n] : List SV).length:Nat):Int)=1,rfl⟩]<|xw_block<|xw_unroll 4<|ul_step<|kb [(0,.t)] 1 [10,9,8,7,4,0] [] [dT (0<1)]<|xw_seq<|ct<|xw_skip<|an<|xw_seq<|xw_block<|kB [(0,.i n)] 3 ⟨[(6,.i n),(9,.i 0),(8,.i 1),(7,.sl false 1 [.i n]),(4,.u 0),(0,.u a)],[],0⟩ [⟨(0:Int)<=0/\0<((([.i n] : List SV).length:Nat):Int)/\([.i n] : List SV)[(0:Int).toNat]? = some (.i n),⟨om,by simp,rfl⟩⟩,tr]<|kc [(2,.i n),(3,.i (a + n))] 5 [0,9,8,7,4] [] [w7 n,w7 (a + n)]<|ib<|an<|kc [(0,.i 1)] 2 [9,0,8,7,4] [] [⟨IntKind.i64.wrap (0 + 1)=1,rfl⟩]<|agu<|ul_step<|kb [(0,.f)] 1 [10,9,0,8,7,4] [] [dF (1<1)]<|xw_seq<|cf ?_
 exact xw_exit<|an_exit<|agu_exit<|ib_same<|an<|kB [] 2 ⟨[(4,.u (a + n))],[],0⟩ []<|xw_ret<|bs (.u (a + n)) rfl
theorem sum2 (a n k:Int)(hp0:0<=a/\a<=17179869184)(hp1:0<=n/\n<=1048576)(hp2:0<=k/\k<=1048576):Pub Tryz.prog 110 [.u a,.sl false 1 [.i n,.i k]] (fun rv=>rv = .u (a + n + k)):=by
 refine pub_of TT_ok Tryz.func110 rfl (by decide) nk kr<|kb [] 1 [4,0,1] [] []<|xw_seq<|kb [(1,.i 2)] 3 [9,8,7,4,0] [] [⟨((([.i n,.i k] : List SV).length:Nat):Int)=2,rfl⟩]<|xw_block<|xw_unroll 4<|ul_step<|kb [(0,.t)] 1 [10,9,8,7,4,0] [] [dT (0<2)]<|xw_seq<|ct<|xw_skip<|an<|xw_seq<|xw_block<|kB [(0,.i n)] 3 ⟨[(6,.i n),(9,.i 0),(8,.i 2),(7,.sl false 1 [.i n,.i k]),(4,.u 0),(0,.u a)],[],0⟩ [⟨(0:Int)<=0/\0<((([.i n,.i k] : List SV).length:Nat):Int)/\([.i n,.i k] : List SV)[(0:Int).toNat]? = some (.i n),⟨om,by simp,rfl⟩⟩,tr]<|kc [(2,.i n),(3,.i (a + n))] 5 [0,9,8,7,4] [] [w7 n,w7 (a + n)]<|ib<|an<|kc [(0,.i 1)] 2 [9,0,8,7,4] [] [⟨IntKind.i64.wrap (0 + 1)=1,rfl⟩]<|agu<|ul_step<|kb [(0,.t)] 1 [10,9,0,8,7,4] [] [dT (1<2)]<|xw_seq<|ct ?_
 exact xw_skip<|an<|xw_seq<|xw_block<|kB [(0,.i k)] 3 ⟨[(6,.i k),(9,.i 1),(0,.u (a + n)),(8,.i 2),(7,.sl false 1 [.i n,.i k]),(4,.u 0)],[],0⟩ [⟨(0:Int)<=1/\1<((([.i n,.i k] : List SV).length:Nat):Int)/\([.i n,.i k] : List SV)[(1:Int).toNat]? = some (.i k),⟨om,by simp,rfl⟩⟩,tr]<|kc [(2,.i k),(3,.i ((a + n) + k))] 5 [0,9,8,7,4] [] [w7 k,w7 ((a + n) + k)]<|ib<|an<|kc [(0,.i 2)] 2 [9,0,8,7,4] [] [⟨IntKind.i64.wrap (1 + 1)=2,rfl⟩]<|agu<|ul_step<|kb [(0,.f)] 1 [10,9,0,8,7,4] [] [dF (2<2)]<|xw_seq<|cf<|xw_exit<|an_exit<|agu_exit<|ib_same<|an<|kB [] 2 ⟨[(4,.u ((a + n) + k))],[],0⟩ []<|xw_ret<|br (.u ((a + n) + k)) (.u (a + n + k)) (wk_s [(0,⟨(((a + n) + k):Int)=(a + n + k),om⟩)]) rfl
set_option maxHeartbeats 8000000 in
set_option maxHeartbeats 8000000 in
theorem oput (W:Int)(xs ys:List Int)(a t l m:Int)(hp0:16<=W/\W<=4096)(hp1:(xs.length:Int)=W)(hp2:(ys.length:Int)=W)(hp3:U64s xs)(hp4:U64s ys)(hp5:U6 a)(hp6:I6 t)(hp7:I6 l)(hp8:U6 m):Pub Tryz.prog 91 [.agg (mm W xs ys),.u a,.agg [.i t,.i l,.u m]] (fun rv=>(((t=255/\0<=l/\l<=65535/\m=0)\/(1<=t/\t<=200/\0<=l/\l<=16/\m<2 ^ (Int.toNat l)/\m<65536))/\(1<=a / 4294967296/\a / 4294967296<=2/\a % 4294967296<W)/\((t=255/\(a % 4294967296) + l + 1<=W)\/(t≠255/\(a % 4294967296) + l + 2<=W))/\rv = .tup [.agg (mm W (px xs a t l m) (py ys a t l m)),.i 0])\/(((t=255/\0<=l/\l<=65535/\m=0)\/(1<=t/\t<=200/\0<=l/\l<=16/\m<2 ^ (Int.toNat l)/\m<65536))/\(¬ ((1<=a / 4294967296/\a / 4294967296<=2/\a % 4294967296<W)/\((t=255/\(a % 4294967296) + l + 1<=W)\/(t≠255/\(a % 4294967296) + l + 2<=W))))/\rv = .tup [.agg (mm W xs ys),.i 2])\/((¬ ((t=255/\0<=l/\l<=65535/\m=0)\/(1<=t/\t<=200/\0<=l/\l<=16/\m<2 ^ (Int.toNat l)/\m<65536)))/\rv = .tup [.agg (mm W xs ys),.i (headErr t l m)])):=by
 refine pub_of TT_ok Tryz.func91 rfl (by decide) nk kr<|kb [] 4 [7,6,5,3,1] [2,1,0] []<|xw_seq<|reg<|ka [] 1 0 [12,7,6,5,3,1] [2,1,0] [tr] ?_
 by_cases h0:(t=255/\0<=l/\l<=65535/\m=0)\/(1<=t/\t<=200/\0<=l/\l<=16/\m<2 ^ (Int.toNat l)/\m<65536)
 ·
  refine pc (hword_1 t l m ZZ ZZ ZZ ZZ)<|ka [] 5 2 [9,8,7,6,5,3,1] [2,1,0] []<|en<|an<|xw_seq<|xw_block<|kB [(1,.f)] 3 ⟨[(16,.f),(9,.i 0),(8,.u (t * 72057594037927936 + l * 4294967296 + m)),(7,.i 0),(6,.p 2),(5,.p 1),(3,.p 0),(1,.u a)],[C5,(C6 t l m),(0,.cells (mm W xs ys) 25)],3⟩ [nF 0 0]<|cf<|xw_seq<|dregk hmix kr<|kd [] 3 0 [tr,tr] ?_
  by_cases h1:t=255
  ·
   refine qc (hwords_1 t l m ZZ ZZ ZZ om ZZ) ?_
   by_cases h2:1<=a / 4294967296/\a / 4294967296<=2/\(a % 4294967296)<W/\0<=(l + 1)/\(a % 4294967296) + (l + 1)<=W
   ·
    refine qc (othere_1 W xs ys a (l + 1) ZZ ZZ ZZ ZZ ZZ ZZ om om)<|kd [] 2 5 []<|qen<|an<|cf<|xw_skip<|ib<|an<|xw_seq<|reg<|ka [] 3 0 [32,31,30,7,6,5,3,1] [2,1,0] [tr]<|pc (store_1 W xs ys a (t * 72057594037927936 + l * 4294967296 + m) ZZ ZZ ZZ ZZ ZZ ZZ om om) ?_
    obtain ⟨h3,h4,h5,h6⟩:=stx_ok W xs ys a (t * 72057594037927936 + l * 4294967296 + m) ZZ ZZ ZZ ZZ om
    refine kA [] 4 4 ⟨[(7,.i 0),(6,.p 2),(5,.p 1),(3,.p 0),(1,.u a)],[C5,(C6 t l m),(0,.cells (mm W (C3 xs a t l m) (C4 ys a t l m)) 25)],3⟩ [tr]<|en<|an<|xw_seq<|kb [] 1 [10,7,6,5,3,1] [2,1,0] []<|xw_block<|xw_loop (α:={q:Int // (1<=q)/\((t=255/\q=1)\/(t≠255/\q<=l + 2))}) (fun p=>⟨[(10,.i p.1),(7,.i 0),(6,.p 2),(5,.p 1),(3,.p 0),(1,.u a)],[C5,(C6 t l m),(0,.cells (mm W (zx (C3 xs a t l m) a (Int.toNat (p.1 - 1))) (zy (C4 ys a t l m) a (Int.toNat (p.1 - 1)))) 25)],3⟩) (fun p=>(l + 2 - p.1).toNat) ⟨1,⟨om,om⟩⟩ (le_s [] [(9,⟨((m64 (C3 xs a t l m)):List SV)=(m64 (zx (C3 xs a t l m) a (Int.toNat (1 - 1)))),Cb2⟩),(11,⟨((m64 (C4 ys a t l m)):List SV)=(m64 (zy (C4 ys a t l m) a (Int.toNat (1 - 1)))),Cb2⟩)]) ?_
    rintro ⟨i,h7,h8⟩
    show XW _ _ _ _ _ _ ⟨[(10,.int .i64 i),(7,.int .i64 0),(6,.loc 2 0),(5,.loc 1 0),(3,.loc 0 0),(1,.int .u64 a)],[(2,.cells [.int .i64 0,.nils,.nils] 25),(1,.cells [.int .i64 t,.int .i64 l,.int .u64 m] 58),(0,.cells (mm W (zx (C3 xs a t l m) a (Int.toNat (i - 1))) (zy (C4 ys a t l m) a (Int.toNat (i - 1)))) 25)],3⟩
    refine xw_seq<|xw_seq<|reg<|ka [] 2 0 [37,36,10,7,6,5,3,1] [2,1,0] [tr]<|pc (hwords_1 t l m ZZ ZZ ZZ om ZZ)<|ka [(3,.bool (decide (i<(l + 1))))] 2 3 [40,10,7,6,5,3,1] [2,1,0] [sf (decide (i<(l + 1)))]<|splitr 40 (x:=(decide (i<(l + 1)))) kr (fun h9=>?_) (fun h9=>?_)
    ·
     replace h9:i<(l + 1):=of_decide_eq_true h9
     exact ka [(7,.f)] 4 5 [44,10,7,6,5,3,1] [2,1,0] [tr,nF t 255,tr]<|en<|an<|cf<|xw_exit<|an_exit<|ag_exit<|ib_same<|an<|kB [] 3 ⟨[(7,.i 0),(6,.p 2)],[(2,.cells (mm W (zx (C3 xs a t l m) a (Int.toNat (i - 1))) (zy (C4 ys a t l m) a (Int.toNat (i - 1)))) 25)],3⟩ [tr,tr]<|xw_ret<|br (.tup [.agg (mm W (zx (C3 xs a t l m) a (Int.toNat (i - 1))) (zy (C4 ys a t l m) a (Int.toNat (i - 1)))),.i 0]) (.tup [.agg (mm W (px xs a t l m) (py ys a t l m)),.i 0]) (wk_s [(2,⟨(m64 (zx (C3 xs a t l m) a (Int.toNat (i - 1))))=(m64 (px xs a t l m)),Cb1⟩),(4,⟨(m64 (zy (C4 ys a t l m) a (Int.toNat (i - 1))))=(m64 (py ys a t l m)),Cb1⟩)]) (Or.inl <| ⟨Cb1,om,om,rfl⟩)
    ·
     replace h9:¬ (i<(l + 1)):=of_decide_eq_false h9
     exact ka [] 4 5 [44,10,7,6,5,3,1] [2,1,0] [tr]<|en<|an<|cf<|xw_exit<|an_exit<|ag_exit<|ib_same<|an<|kB [] 3 ⟨[(7,.i 0),(6,.p 2)],[(2,.cells (mm W (zx (C3 xs a t l m) a (Int.toNat (i - 1))) (zy (C4 ys a t l m) a (Int.toNat (i - 1)))) 25)],3⟩ [tr,tr]<|xw_ret<|br (.tup [.agg (mm W (zx (C3 xs a t l m) a (Int.toNat (i - 1))) (zy (C4 ys a t l m) a (Int.toNat (i - 1)))),.i 0]) (.tup [.agg (mm W (px xs a t l m) (py ys a t l m)),.i 0]) (wk_s [(2,⟨(m64 (zx (C3 xs a t l m) a (Int.toNat (i - 1))))=(m64 (px xs a t l m)),Cb1⟩),(4,⟨(m64 (zy (C4 ys a t l m) a (Int.toNat (i - 1))))=(m64 (py ys a t l m)),Cb1⟩)]) (Or.inl <| ⟨Cb1,om,om,rfl⟩)
   ·
    exact qc (othere_2 W xs ys a (l + 1) ZZ ZZ ZZ ZZ ZZ ZZ om om)<|kd [] 2 5 []<|qen<|an<|ct<|kb [] 3 [7,8,6,5,3,1] [2,1,0] [tr,tr]<|xw_ret<|ib_ret<|an_ret<|bs (.tup [.agg (mm W xs ys),.i 2]) (Or.inr <| Or.inl <| ⟨Cb1,om,rfl⟩)
  ·
   refine qc (hwords_2 t l m ZZ ZZ ZZ om ZZ) ?_
   by_cases h2:1<=a / 4294967296/\a / 4294967296<=2/\(a % 4294967296)<W/\0<=(l + 2)/\(a % 4294967296) + (l + 2)<=W
   ·
    refine qc (othere_1 W xs ys a (l + 2) ZZ ZZ ZZ ZZ ZZ ZZ om om)<|kd [] 2 5 []<|qen<|an<|cf<|xw_skip<|ib<|an<|xw_seq<|reg<|ka [] 3 0 [32,31,30,7,6,5,3,1] [2,1,0] [tr]<|pc (store_1 W xs ys a (t * 72057594037927936 + l * 4294967296 + m) ZZ ZZ ZZ ZZ ZZ ZZ om om) ?_
    obtain ⟨h3,h4,h5,h6⟩:=stx_ok W xs ys a (t * 72057594037927936 + l * 4294967296 + m) ZZ ZZ ZZ ZZ om
    refine kA [] 4 4 ⟨[(7,.i 0),(6,.p 2),(5,.p 1),(3,.p 0),(1,.u a)],[C5,(C6 t l m),(0,.cells (mm W (C3 xs a t l m) (C4 ys a t l m)) 25)],3⟩ [tr]<|en<|an<|xw_seq<|kb [] 1 [10,7,6,5,3,1] [2,1,0] []<|xw_block<|xw_loop (α:={q:Int // (1<=q)/\((t=255/\q=1)\/(t≠255/\q<=l + 2))}) (fun p=>⟨[(10,.i p.1),(7,.i 0),(6,.p 2),(5,.p 1),(3,.p 0),(1,.u a)],[C5,(C6 t l m),(0,.cells (mm W (zx (C3 xs a t l m) a (Int.toNat (p.1 - 1))) (zy (C4 ys a t l m) a (Int.toNat (p.1 - 1)))) 25)],3⟩) (fun p=>(l + 2 - p.1).toNat) ⟨1,⟨om,om⟩⟩ (le_s [] [(9,⟨((m64 (C3 xs a t l m)):List SV)=(m64 (zx (C3 xs a t l m) a (Int.toNat (1 - 1)))),Cb2⟩),(11,⟨((m64 (C4 ys a t l m)):List SV)=(m64 (zy (C4 ys a t l m) a (Int.toNat (1 - 1)))),Cb2⟩)]) ?_
    rintro ⟨i,h7,h8⟩
    show XW _ _ _ _ _ _ ⟨[(10,.int .i64 i),(7,.int .i64 0),(6,.loc 2 0),(5,.loc 1 0),(3,.loc 0 0),(1,.int .u64 a)],[(2,.cells [.int .i64 0,.nils,.nils] 25),(1,.cells [.int .i64 t,.int .i64 l,.int .u64 m] 58),(0,.cells (mm W (zx (C3 xs a t l m) a (Int.toNat (i - 1))) (zy (C4 ys a t l m) a (Int.toNat (i - 1)))) 25)],3⟩
    refine xw_seq<|xw_seq<|reg<|ka [] 2 0 [37,36,10,7,6,5,3,1] [2,1,0] [tr]<|pc (hwords_2 t l m ZZ ZZ ZZ om ZZ)<|ka [(3,.bool (decide (i<(l + 2))))] 2 3 [40,10,7,6,5,3,1] [2,1,0] [sf (decide (i<(l + 2)))]<|splitr 40 (x:=(decide (i<(l + 2)))) kr (fun h9=>?_) (fun h9=>?_)
    ·
     replace h9:i<(l + 2):=of_decide_eq_true h9
     refine ka [(7,.t)] 4 5 [44,10,7,6,5,3,1] [2,1,0] [tr,nT t 255,tr]<|en<|an<|ct<|xw_skip<|an<|xw_seq<|xw_block<|sreg hmix [([C5,(C6 t l m),(0,.cells (mm W (zx (C3 xs a t l m) a (Int.toNat (i - 1))) (zy (C4 ys a t l m) a (Int.toNat (i - 1)))) 25)],3),([C5,(C6 t l m),(0,.cells (mm W (stx (zx (C3 xs a t l m) a (Int.toNat (i - 1))) (a + i) 0) (sty (zy (C4 ys a t l m) a (Int.toNat (i - 1))) (a + i) 0)) 25)],3)] [9] [(3,[2]),(4,[1,2,3]),(5,[0,1,2,3,4]),(6,[0,1,2,3,4,5]),(7,[0,1,2,3,4,5,6]),(8,[0,1,2,3,4,5,6]),(9,[0,1,2,3,4,5,6,7])] kr kr kr kr kr<|ke [(3,.t)] 4 0 [tr,tr,tr,tr]<|sc (sum1 a i om om)<|sc (store_1 W (zx (C3 xs a t l m) a (Int.toNat (i - 1))) (zy (C4 ys a t l m) a (Int.toNat (i - 1))) (a + i) 0 ZZ pq pq pq pq om om om) ?_
     obtain ⟨h10,h11,h12,h13⟩:=stx_ok W (zx (C3 xs a t l m) a (Int.toNat (i - 1))) (zy (C4 ys a t l m) a (Int.toNat (i - 1))) (a + i) 0 pq pq pq pq om
     exact ke [] 4 6 [tr,tr,tr,tr,sf ([C5,(C6 t l m),(0,.cells (mm W (stx (zx (C3 xs a t l m) a (Int.toNat (i - 1))) (a + i) 0) (sty (zy (C4 ys a t l m) a (Int.toNat (i - 1))) (a + i) 0)) 25)] : Mem),sf (3:Nat)]<|sen<|ib<|an<|kC [(1,.i (i + 1))] 3 ⟨[(10,.i (i + 1)),(7,.i 0),(6,.p 2),(5,.p 1),(3,.p 0),(1,.u a)],[C5,(C6 t l m),(0,.cells (mm W (stx (zx (C3 xs a t l m) a (Int.toNat (i - 1))) (a + i) 0) (sty (zy (C4 ys a t l m) a (Int.toNat (i - 1))) (a + i) 0)) 25)],3⟩ [w6 (i + 1)]<|ag ⟨(i + 1),⟨om,om⟩⟩ (le_s [] [(9,⟨((m64 (stx (zx (C3 xs a t l m) a (Int.toNat (i - 1))) (a + i) 0)):List SV)=(m64 (zx (C3 xs a t l m) a (Int.toNat ((i + 1) - 1)))),Cb2⟩),(11,⟨((m64 (sty (zy (C4 ys a t l m) a (Int.toNat (i - 1))) (a + i) 0)):List SV)=(m64 (zy (C4 ys a t l m) a (Int.toNat ((i + 1) - 1)))),Cb2⟩)]) dm
    ·
     replace h9:¬ (i<(l + 2)):=of_decide_eq_false h9
     exact ka [] 4 5 [44,10,7,6,5,3,1] [2,1,0] [tr]<|en<|an<|cf<|xw_exit<|an_exit<|ag_exit<|ib_same<|an<|kB [] 3 ⟨[(7,.i 0),(6,.p 2)],[(2,.cells (mm W (zx (C3 xs a t l m) a (Int.toNat (i - 1))) (zy (C4 ys a t l m) a (Int.toNat (i - 1)))) 25)],3⟩ [tr,tr]<|xw_ret<|br (.tup [.agg (mm W (zx (C3 xs a t l m) a (Int.toNat (i - 1))) (zy (C4 ys a t l m) a (Int.toNat (i - 1)))),.i 0]) (.tup [.agg (mm W (px xs a t l m) (py ys a t l m)),.i 0]) (wk_s [(2,⟨(m64 (zx (C3 xs a t l m) a (Int.toNat (i - 1))))=(m64 (px xs a t l m)),Cb1⟩),(4,⟨(m64 (zy (C4 ys a t l m) a (Int.toNat (i - 1))))=(m64 (py ys a t l m)),Cb1⟩)]) (Or.inl <| ⟨Cb1,om,om,rfl⟩)
   ·
    exact qc (othere_2 W xs ys a (l + 2) ZZ ZZ ZZ ZZ ZZ ZZ om om)<|kd [] 2 5 []<|qen<|an<|ct<|kb [] 3 [7,8,6,5,3,1] [2,1,0] [tr,tr]<|xw_ret<|ib_ret<|an_ret<|bs (.tup [.agg (mm W xs ys),.i 2]) (Or.inr <| Or.inl <| ⟨Cb1,om,rfl⟩)
 ·
  refine pc (hword_2 t l m ZZ ZZ ZZ ZZ) ?_
  have h1:(headErr t l m)≠0:=headErr_ne om om
  exact ka [] 5 2 [9,8,7,6,5,3,1] [2,1,0] []<|en<|an<|xw_seq<|xw_block<|kB [(1,.t)] 3 ⟨[(16,.t),(9,.i (headErr t l m)),(8,.u 0),(7,.i 0),(6,.p 2),(5,.p 1),(3,.p 0),(1,.u a)],[C5,(C6 t l m),(0,.cells (mm W xs ys) 25)],3⟩ [nT (headErr t l m) 0]<|ct<|kb [] 4 [7,8,6,5,3,1] [2,1,0] [tr,tr]<|xw_ret<|ib_ret<|an_ret<|bs (.tup [.agg (mm W xs ys),.i (headErr t l m)]) (Or.inr <| Or.inr <| ⟨Cb1,rfl⟩)
theorem oput_1 (W:Int)(xs ys:List Int)(a t l m:Int)(hp0:16<=W/\W<=4096)(hp1:(xs.length:Int)=W)(hp2:(ys.length:Int)=W)(hp3:U64s xs)(hp4:U64s ys)(hp5:0<=a/\a<=18446744073709551615)(hp6 : -9223372036854775808<=t/\t<=9223372036854775807)(hp7 : -9223372036854775808<=l/\l<=9223372036854775807)(hp8:0<=m/\m<=18446744073709551615)(hp9:(t=255/\0<=l/\l<=65535/\m=0)\/(1<=t/\t<=200/\0<=l/\l<=16/\m<2 ^ (Int.toNat l)/\m<65536))(hp10:1<=a / 4294967296/\a / 4294967296<=2/\a % 4294967296<W)(hp11:(t=255/\(a % 4294967296) + l + 1<=W)\/(t≠255/\(a % 4294967296) + l + 2<=W)):Pub Tryz.prog 91 [.agg (mm W xs ys),.u a,.agg [.i t,.i l,.u m]] (fun rv=>rv = .tup [.agg (mm W (px xs a t l m) (py ys a t l m)),.i 0]):=by
  refine (oput W xs ys a t l m hp0 hp1 hp2 hp3 hp4 hp5 hp6 hp7 hp8).mono ?_
  rintro _ (⟨g0,g1,g2,rfl⟩ | ⟨g0,g1,rfl⟩ | ⟨g0,rfl⟩)
  all_goals first | rfl | (exfalso; first | omega | grind)
theorem oput_2 (W:Int)(xs ys:List Int)(a t l m:Int)(hp0:16<=W/\W<=4096)(hp1:(xs.length:Int)=W)(hp2:(ys.length:Int)=W)(hp3:U64s xs)(hp4:U64s ys)(hp5:0<=a/\a<=18446744073709551615)(hp6 : -9223372036854775808<=t/\t<=9223372036854775807)(hp7 : -9223372036854775808<=l/\l<=9223372036854775807)(hp8:0<=m/\m<=18446744073709551615)(hp9:(t=255/\0<=l/\l<=65535/\m=0)\/(1<=t/\t<=200/\0<=l/\l<=16/\m<2 ^ (Int.toNat l)/\m<65536))(hp10:¬ ((1<=a / 4294967296/\a / 4294967296<=2/\a % 4294967296<W)/\((t=255/\(a % 4294967296) + l + 1<=W)\/(t≠255/\(a % 4294967296) + l + 2<=W)))):Pub Tryz.prog 91 [.agg (mm W xs ys),.u a,.agg [.i t,.i l,.u m]] (fun rv=>rv = .tup [.agg (mm W xs ys),.i 2]):=by
  refine (oput W xs ys a t l m hp0 hp1 hp2 hp3 hp4 hp5 hp6 hp7 hp8).mono ?_
  rintro _ (⟨g0,g1,g2,rfl⟩ | ⟨g0,g1,rfl⟩ | ⟨g0,rfl⟩)
  all_goals first | rfl | (exfalso; first | omega | grind)
set_option linter.unusedVariables false
abbrev D1(xs ys:List Int)(a W:Int):Mem:=[(5,.cells [.fn 98 [] [.p 0,.p 1,.p 4],.fn 100 [] [.p 4,.p 3],.fn 102 [] [.p 0,.p 1,.p 3]] 156),(4,.cells [.u (ldw xs ys a)] 52),(3,.cells [.i (hT xs ys a),.i (hL xs ys a),.u (hM xs ys a)] 58),(2,.cells [.i 0,.i 0,.u 0] 58),(1,.cells [.u a] 52),(0,.cells (mm W xs ys) 25)]
abbrev D2(xs ys:List Int)(a:Int):List SV:=[.agg [.i (ldw xs ys a / 72057594037927936),.i ((ldw xs ys a / 4294967296) % 16777216),.u (ldw xs ys a % 4294967296)],.i 0]
abbrev D3(xs ys:List Int)(a W:Int):Mem:=[(5,.cells [.fn 98 [] [.p 0,.p 1,.p 4],.fn 100 [] [.p 4,.p 3],.fn 102 [] [.p 0,.p 1,.p 3]] 156),(4,.cells [.u (ldw xs ys a)] 52),(3,.cells [.i 0,.i 0,.u 0] 58),(2,.cells [.i 0,.i 0,.u 0] 58),(1,.cells [.u a] 52),(0,.cells (mm W xs ys) 25)]
abbrev D4(a W:Int)(xs ys:List Int):Mem:=[(5,.cells [.fn 98 [] [.p 0,.p 1,.p 4],.fn 100 [] [.p 4,.p 3],.fn 102 [] [.p 0,.p 1,.p 3]] 156),(4,.cells [.u 0] 52),(3,.cells [.i 0,.i 0,.u 0] 58),(2,.cells [.i 0,.i 0,.u 0] 58),(1,.cells [.u a] 52),(0,.cells (mm W xs ys) 25)]
abbrev D5(xs ys:List Int)(a:Int):SV:=.tup [.agg [.i ((ldw xs ys a) / 72057594037927936),.i (((ldw xs ys a) / 4294967296) % 16777216),.u ((ldw xs ys a) % 4294967296)],.i 0]
abbrev D6(W:Int)(xs ys:List Int)(a:Int):List SV:=[.agg [.i 0,.i 0,.u 0],.i (oErr W xs ys a)]
abbrev D7(xs ys:List Int)(a:Int):Mem:=[(2,.cells [.i (hT xs ys a),.i (hL xs ys a),.u (hM xs ys a)] 58),(1,.cells [.i 0,.i 0,.u 0] 58)]
abbrev D8:SV:=.tup [.agg [.i 0,.i 0,.u 0],.i 2]
theorem Db1{p:Prop}(h:p:=by first | rfl | omega | (rw [oErr_0 om om om]; done) | (rw [oErr_1 om]; done) | (rw [oErr_1 om]; decide) | (rw [oErr_2 om om]; done) | (rw [oErr_2 om om]; decide) | (rw [oErr_3 om om om]; done) | (rw [oErr_3 om om om]; decide)):p:=h
set_option maxHeartbeats 8000000 in
theorem roat (W:Int)(xs ys:List Int)(a:Int)(hp0:16<=W/\W<=4096)(hp1:(xs.length:Int)=W)(hp2:(ys.length:Int)=W)(hp3:U64s xs)(hp4:U64s ys)(hp5:U6 a):Pub Tryz.prog 17 [.agg (mm W xs ys),.u a] (fun rv=>(((oErr W xs ys a)=0)/\rv = .tup (D2 xs ys a))\/((¬ ((oErr W xs ys a)=0))/\rv = .tup (D6 W xs ys a))):=by
 refine pub_of TT_ok Tryz.func17 rfl (by decide) nk kr<|kb [] 3 [5,4,2,1] [1,0] []<|xw_seq<|reg<|ka [] 2 0 [13,12,5,4,2,1] [1,0] [tr] ?_
 by_cases h0:1<=a / 4294967296/\a / 4294967296<=2/\a % 4294967296<W
 ·
  refine pc (rload_1 W xs ys a ZZ ZZ ZZ ZZ ZZ ZZ om) ?_
  have h1:U6 (ldw xs ys a):=ldw_ok xs ys a ZZ ZZ
  refine ka [] 5 3 [7,6,5,4,2,1] [1,0] []<|en<|an<|xw_seq<|kB [(1,.f)] 2 ⟨[(18,.f),(7,.i 0),(6,.u (ldw xs ys a)),(5,.i 0),(4,.p 1),(2,.p 0),(1,.u a)],[(1,.cells [.i 0,.i 0,.u 0] 58),(0,.cells (mm W xs ys) 25)],2⟩ [nF 0 0]<|cf<|xw_skip<|an<|xw_seq<|reg<|ka [] 1 0 [22,5,4,2,1] [1,0] [] ?_
  by_cases h2:(((ldw xs ys a) / 72057594037927936)=255/\0<=(((ldw xs ys a) / 4294967296) % 16777216)/\(((ldw xs ys a) / 4294967296) % 16777216)<=65535/\((ldw xs ys a) % 4294967296)=0)\/(1<=((ldw xs ys a) / 72057594037927936)/\((ldw xs ys a) / 72057594037927936)<=200/\0<=(((ldw xs ys a) / 4294967296) % 16777216)/\(((ldw xs ys a) / 4294967296) % 16777216)<=16/\((ldw xs ys a) % 4294967296)<2 ^ (Int.toNat (((ldw xs ys a) / 4294967296) % 16777216))/\((ldw xs ys a) % 4294967296)<65536)
  ·
   refine pc (rhtake_1 (ldw xs ys a) ZZ ZZ)<|ka [] 6 2 [9,8,5,4,2,1] [2,1,0] [tr]<|en<|an<|xw_seq<|kb [(1,.f)] 2 [27,8,5,4,2,1] [2,1,0] [nF 0 0]<|cf<|xw_skip<|an<|xw_seq<|dregk hmix kr<|kd [] 3 0 [tr,tr] ?_
   by_cases h3:((ldw xs ys a) / 72057594037927936)=255
   ·
    refine qc (rhwords_1 ((ldw xs ys a) / 72057594037927936) (((ldw xs ys a) / 4294967296) % 16777216) ((ldw xs ys a) % 4294967296) om om om om ZZ) ?_
    by_cases h4:1<=a / 4294967296/\a / 4294967296<=2/\(a % 4294967296)<W/\0<=((((ldw xs ys a) / 4294967296) % 16777216) + 1)/\(a % 4294967296) + ((((ldw xs ys a) / 4294967296) % 16777216) + 1)<=W
    ·
     exact qc (rothere_1 W xs ys a ((((ldw xs ys a) / 4294967296) % 16777216) + 1) ZZ ZZ ZZ ZZ ZZ ZZ om om om)<|kd [] 1 5 []<|qen<|an<|xw_seq<|kB [] 2 ⟨[(35,.f),(8,.p 2),(5,.i 0),(4,.p 1)],(D7 xs ys a),3⟩ []<|cf<|xw_skip<|an<|kb [] 3 [5,4] [1] [tr,tr]<|xw_ret<|br (D5 xs ys a) (.tup (D2 xs ys a)) (wk_s [(0,⟨(((ldw xs ys a) / 72057594037927936):Int)=(ldw xs ys a / 72057594037927936),om⟩),(1,⟨((((ldw xs ys a) / 4294967296) % 16777216):Int)=((ldw xs ys a / 4294967296) % 16777216),om⟩),(2,⟨(((ldw xs ys a) % 4294967296):Int)=(ldw xs ys a % 4294967296),om⟩)]) (Or.inl <| ⟨Db1,rfl⟩)
    ·
     exact qc (rothere_2 W xs ys a ((((ldw xs ys a) / 4294967296) % 16777216) + 1) ZZ ZZ ZZ ZZ ZZ ZZ om om om)<|kd [] 1 5 []<|qen<|an<|xw_seq<|kB [] 2 ⟨[(35,.t),(8,.p 2),(5,.i 0),(4,.p 1)],(D7 xs ys a),3⟩ []<|ct<|kb [] 3 [5,8,4] [2,1] [tr]<|xw_ret<|an_ret<|br D8 (.tup (D6 W xs ys a)) (wk_s [(3,⟨(2:Int)=(oErr W xs ys a),Db1⟩)]) (Or.inr <| ⟨Db1,rfl⟩)
   ·
    refine qc (rhwords_2 ((ldw xs ys a) / 72057594037927936) (((ldw xs ys a) / 4294967296) % 16777216) ((ldw xs ys a) % 4294967296) om om om om ZZ) ?_
    by_cases h4:1<=a / 4294967296/\a / 4294967296<=2/\(a % 4294967296)<W/\0<=((((ldw xs ys a) / 4294967296) % 16777216) + 2)/\(a % 4294967296) + ((((ldw xs ys a) / 4294967296) % 16777216) + 2)<=W
    ·
     exact qc (rothere_1 W xs ys a ((((ldw xs ys a) / 4294967296) % 16777216) + 2) ZZ ZZ ZZ ZZ ZZ ZZ om om om)<|kd [] 1 5 []<|qen<|an<|xw_seq<|kB [] 2 ⟨[(35,.f),(8,.p 2),(5,.i 0),(4,.p 1)],(D7 xs ys a),3⟩ []<|cf<|xw_skip<|an<|kb [] 3 [5,4] [1] [tr,tr]<|xw_ret<|br (D5 xs ys a) (.tup (D2 xs ys a)) (wk_s [(0,⟨(((ldw xs ys a) / 72057594037927936):Int)=(ldw xs ys a / 72057594037927936),om⟩),(1,⟨((((ldw xs ys a) / 4294967296) % 16777216):Int)=((ldw xs ys a / 4294967296) % 16777216),om⟩),(2,⟨(((ldw xs ys a) % 4294967296):Int)=(ldw xs ys a % 4294967296),om⟩)]) (Or.inl <| ⟨Db1,rfl⟩)
    ·
     exact qc (rothere_2 W xs ys a ((((ldw xs ys a) / 4294967296) % 16777216) + 2) ZZ ZZ ZZ ZZ ZZ ZZ om om om)<|kd [] 1 5 []<|qen<|an<|xw_seq<|kB [] 2 ⟨[(35,.t),(8,.p 2),(5,.i 0),(4,.p 1)],(D7 xs ys a),3⟩ []<|ct<|kb [] 3 [5,8,4] [2,1] [tr]<|xw_ret<|an_ret<|br D8 (.tup (D6 W xs ys a)) (wk_s [(3,⟨(2:Int)=(oErr W xs ys a),Db1⟩)]) (Or.inr <| ⟨Db1,rfl⟩)
  ·
   exact pc (rhtake_2 (ldw xs ys a) ZZ ZZ)<|ka [] 6 2 [9,8,5,4,2,1] [2,1,0] [tr]<|en<|an<|xw_seq<|kb [(1,.t)] 2 [27,8,5,4,2,1] [2,1,0] [nT 10 0]<|ct<|kB [] 3 ⟨[(5,.i 10),(8,.p 2),(4,.p 1),(2,.p 0),(1,.u a)],[(2,.cells [.i 0,.i 0,.u 0] 58),(1,.cells [.i 0,.i 0,.u 0] 58),(0,.cells (mm W xs ys) 25)],3⟩ [tr]<|xw_ret<|an_ret<|br (.tup [.agg [.i 0,.i 0,.u 0],.i 10]) (.tup (D6 W xs ys a)) (wk_s [(3,⟨(10:Int)=(oErr W xs ys a),Db1⟩)]) (Or.inr <| ⟨Db1,rfl⟩)
 ·
  exact pc (rload_2 W xs ys a ZZ ZZ ZZ ZZ ZZ ZZ om)<|ka [] 5 3 [7,6,5,4,2,1] [1,0] []<|en<|an<|xw_seq<|kB [(1,.t)] 2 ⟨[(18,.t),(7,.i 2),(6,.u 0),(5,.i 0),(4,.p 1),(2,.p 0),(1,.u a)],[(1,.cells [.i 0,.i 0,.u 0] 58),(0,.cells (mm W xs ys) 25)],2⟩ [nT 2 0]<|ct<|kb [] 4 [5,6,4,2,1] [1,0] [tr]<|xw_ret<|an_ret<|br D8 (.tup (D6 W xs ys a)) (wk_s [(3,⟨(2:Int)=(oErr W xs ys a),Db1⟩)]) (Or.inr <| ⟨Db1,rfl⟩)
theorem roat_1 (W:Int)(xs ys:List Int)(a:Int)(hp0:16<=W/\W<=4096)(hp1:(xs.length:Int)=W)(hp2:(ys.length:Int)=W)(hp3:U64s xs)(hp4:U64s ys)(hp5:U6 a)(hp6:(oErr W xs ys a)=0):Pub Tryz.prog 17 [.agg (mm W xs ys),.u a] (fun rv=>rv = .tup (D2 xs ys a)) :=
  (roat W xs ys a hp0 hp1 hp2 hp3 hp4 hp5).mono vr
theorem roat_2 (W:Int)(xs ys:List Int)(a:Int)(hp0:16<=W/\W<=4096)(hp1:(xs.length:Int)=W)(hp2:(ys.length:Int)=W)(hp3:U64s xs)(hp4:U64s ys)(hp5:U6 a)(hp6:¬ ((oErr W xs ys a)=0)):Pub Tryz.prog 17 [.agg (mm W xs ys),.u a] (fun rv=>rv = .tup (D6 W xs ys a)) :=
  (roat W xs ys a hp0 hp1 hp2 hp3 hp4 hp5).mono vr
set_option maxHeartbeats 8000000 in
set_option maxHeartbeats 8000000 in
theorem oat (W:Int)(xs ys:List Int)(a:Int)(hp0:16<=W/\W<=4096)(hp1:(xs.length:Int)=W)(hp2:(ys.length:Int)=W)(hp3:U64s xs)(hp4:U64s ys)(hp5:U6 a):Pub Tryz.prog 79 [.agg (mm W xs ys),.u a] (fun rv=>(((oErr W xs ys a)=0)/\rv = .tup (D2 xs ys a))\/((¬ ((oErr W xs ys a)=0))/\rv = .tup (D6 W xs ys a))):=by
 refine pub_of TT_ok Tryz.func79 rfl (by decide) nk kr<|kb [] 4 [5,4,3,2] [2,1,0] []<|xw_scope_u 0 4 rfl<|kb [] 1 [6,5,4,3,2] [3,2,1,0] []<|kb [] 1 [7,6,5,4,3,2] [4,3,2,1,0] []<|kB [(3,.f)] 5 ⟨[(8,.osub 5 1 0 3),(6,.p 3),(5,.i 0),(4,.p 2)],(D4 a W xs ys),6⟩ []<|kb [] 1 [9,8,6,5,4] [5,4,3,2,1,0] []<|xw_seq<|xw_label<|an<|xw_seq<|xw_seq<|reg<|ka [] 4 0 [18,9,8,6,5,4] [5,4,3,2,1,0] [⟨(0:Int)<=0/\0<((3:Nat):Int),(by constructor <;> omega)⟩,tr]<|callx (f:=98) (args:=[.p 0,.p 1,.p 4]) (d:=(some 19)) kr (xcall_of TT_ok Tryz.func98 rfl (by decide) nk ?_)
 refine kb [] 1 [3,0,1,2] [5,4,3,2,1,0] []<|xw_seq<|reg<|kA [] 2 0 ⟨[(6,.u a),(5,.agg (mm W xs ys)),(3,.i 0),(2,.p 4)],(D4 a W xs ys),6⟩ [tr,tr] ?_
 by_cases h0:1<=a / 4294967296/\a / 4294967296<=2/\a % 4294967296<W
 ·
  refine pc (load_1 W xs ys a ZZ ZZ ZZ ZZ ZZ ZZ om) ?_
  have h1:U6 (ldw xs ys a):=ldw_ok xs ys a ZZ ZZ
  refine ka [] 5 3 [3] [5,4,3,2,1,0] [tr]<|en<|an<|kb [] 2 [3] [5,4,3,2,1,0] []<|xw_ret<|⟨.i 0,kr,?_⟩
  refine kA [] 1 5 ⟨[(10,.i 0),(9,.i 0),(8,.osub 5 1 0 3),(6,.p 3),(5,.i 0),(4,.p 2)],(D3 xs ys a W),6⟩ []<|en<|an<|kb [(1,.f)] 2 [21,10,9,8,6,5,4] [5,4,3,2,1,0] [nF 0 0]<|cf<|xw_skip<|an<|kb [(1,.i 1)] 3 [9,8,6,5,4] [5,4,3,2,1,0] [⟨IntKind.i64.wrap (0 + 1)=1,rfl⟩]<|xw_seq<|kb [(2,.i 3),(3,.t)] 4 [29,9,8,6,5,4] [5,4,3,2,1,0] [⟨(((3:Nat):Nat):Int)=3,rfl⟩,dT (1<3)]<|ct<|xw_goto<|an_goto<|juu<|uj_step<|xw_seq<|xw_skip<|an<|xw_seq<|xw_seq<|reg<|kA [] 4 0 ⟨[(18,.fn 100 [] [.p 4,.p 3]),(9,.i 1),(8,.osub 5 1 0 3),(6,.p 3),(5,.i 0),(4,.p 2)],(D3 xs ys a W),6⟩ [⟨(0:Int)<=1/\1<((3:Nat):Int),(by constructor <;> omega)⟩,tr]<|callx (f:=100) (args:=[.p 4,.p 3]) (d:=(some 19)) kr (xcall_of TT_ok Tryz.func100 rfl (by decide) nk ?_)
  refine kb [] 1 [2,0,1] [5,4,3,2,1,0] []<|xw_seq<|reg<|ka [] 1 0 [4,2,1] [5,4,3,2,1,0] [tr] ?_
  by_cases h2:(((ldw xs ys a) / 72057594037927936)=255/\0<=(((ldw xs ys a) / 4294967296) % 16777216)/\(((ldw xs ys a) / 4294967296) % 16777216)<=65535/\((ldw xs ys a) % 4294967296)=0)\/(1<=((ldw xs ys a) / 72057594037927936)/\((ldw xs ys a) / 72057594037927936)<=200/\0<=(((ldw xs ys a) / 4294967296) % 16777216)/\(((ldw xs ys a) / 4294967296) % 16777216)<=16/\((ldw xs ys a) % 4294967296)<2 ^ (Int.toNat (((ldw xs ys a) / 4294967296) % 16777216))/\((ldw xs ys a) % 4294967296)<65536)
  ·
   refine pc (htake_1 (ldw xs ys a) ZZ ZZ)<|ka [] 5 2 [2] [5,4,3,2,1,0] [tr]<|en<|an<|kB [] 2 ⟨[(2,.i 0)],(D1 xs ys a W),6⟩ []<|xw_ret<|⟨.i 0,kr,?_⟩
   refine ka [] 1 5 [10,9,8,6,5,4] [5,4,3,2,1,0] []<|en<|an<|kb [(1,.f)] 2 [21,10,9,8,6,5,4] [5,4,3,2,1,0] [nF 0 0]<|cf<|xw_skip<|an<|kB [(1,.i 2)] 3 ⟨[(9,.i 2),(8,.osub 5 1 0 3),(6,.p 3),(5,.i 0),(4,.p 2)],(D1 xs ys a W),6⟩ [⟨IntKind.i64.wrap (1 + 1)=2,rfl⟩]<|xw_seq<|kb [(2,.i 3),(3,.t)] 4 [29,9,8,6,5,4] [5,4,3,2,1,0] [⟨(((3:Nat):Nat):Int)=3,rfl⟩,dT (2<3)]<|ct<|xw_goto<|an_goto<|juu<|uj_step<|xw_seq<|xw_skip<|an<|xw_seq<|xw_seq<|reg<|ka [] 4 0 [18,9,8,6,5,4] [5,4,3,2,1,0] [⟨(0:Int)<=2/\2<((3:Nat):Int),(by constructor <;> omega)⟩,tr]<|callx (f:=102) (args:=[.p 0,.p 1,.p 3]) (d:=(some 19)) kr (xcall_of TT_ok Tryz.func102 rfl (by decide) nk ?_)
   refine kb [] 1 [3,0,1,2] [5,4,3,2,1,0] []<|xw_seq<|xw_seq<|dregk hmix kr<|kd [] 3 0 [tr,tr,tr] ?_
   by_cases h3:((ldw xs ys a) / 72057594037927936)=255
   ·
    refine qc (hwords_1 ((ldw xs ys a) / 72057594037927936) (((ldw xs ys a) / 4294967296) % 16777216) ((ldw xs ys a) % 4294967296) om om om om ZZ) ?_
    by_cases h4:1<=a / 4294967296/\a / 4294967296<=2/\(a % 4294967296)<W/\0<=((((ldw xs ys a) / 4294967296) % 16777216) + 1)/\(a % 4294967296) + ((((ldw xs ys a) / 4294967296) % 16777216) + 1)<=W
    ·
     refine qc (othere_1 W xs ys a ((((ldw xs ys a) / 4294967296) % 16777216) + 1) ZZ ZZ ZZ ZZ ZZ ZZ om om)<|kd [] 1 5 []<|qen<|an<|cf<|xw_skip<|an<|kB [] 1 ⟨[(3,.i 0)],(D1 xs ys a W),6⟩ []<|xw_ret<|⟨.i 0,kr,?_⟩
     exact ka [] 1 5 [10,9,8,6,5,4] [5,4,3,2,1,0] []<|en<|an<|kb [(1,.f)] 2 [21,10,9,8,6,5,4] [5,4,3,2,1,0] [nF 0 0]<|cf<|xw_skip<|an<|kB [(1,.i 3)] 3 ⟨[(9,.i 3),(8,.osub 5 1 0 3),(6,.p 3),(5,.i 0),(4,.p 2)],(D1 xs ys a W),6⟩ [⟨IntKind.i64.wrap (2 + 1)=3,rfl⟩]<|xw_seq<|kb [(2,.i 3),(3,.f)] 4 [29,9,8,6,5,4] [5,4,3,2,1,0] [⟨(((3:Nat):Nat):Int)=3,rfl⟩,dF (3<3)]<|cf<|xw_skip<|an<|kb [] 3 [5,9,8,6,4] [5,4,3,2,1,0] [tr,tr]<|xw_ret<|juu_ret<|br (D5 xs ys a) (.tup (D2 xs ys a)) (wk_s [(0,⟨(((ldw xs ys a) / 72057594037927936):Int)=(ldw xs ys a / 72057594037927936),om⟩),(1,⟨((((ldw xs ys a) / 4294967296) % 16777216):Int)=((ldw xs ys a / 4294967296) % 16777216),om⟩),(2,⟨(((ldw xs ys a) % 4294967296):Int)=(ldw xs ys a % 4294967296),om⟩)]) (Or.inl <| ⟨Db1,rfl⟩)
    ·
     refine qc (othere_2 W xs ys a ((((ldw xs ys a) / 4294967296) % 16777216) + 1) ZZ ZZ ZZ ZZ ZZ ZZ om om)<|kd [] 1 5 []<|qen<|an<|ct<|kB [] 1 ⟨[(3,.i 2)],(D1 xs ys a W),6⟩ []<|xw_ret<|an_ret<|⟨.i 2,kr,?_⟩
     exact ka [] 1 5 [10,9,8,6,5,4] [5,4,3,2,1,0] []<|en<|an<|kb [(1,.t)] 2 [21,10,9,8,6,5,4] [5,4,3,2,1,0] [nT 2 0]<|ct<|kB [] 4 ⟨[(5,.i 2),(9,.i 2),(8,.osub 5 1 0 3),(6,.p 3),(4,.p 2)],(D1 xs ys a W),6⟩ [tr]<|xw_ret<|an_ret<|juu_ret<|br D8 (.tup (D6 W xs ys a)) (wk_s [(3,⟨(2:Int)=(oErr W xs ys a),Db1⟩)]) (Or.inr <| ⟨Db1,rfl⟩)
   ·
    refine qc (hwords_2 ((ldw xs ys a) / 72057594037927936) (((ldw xs ys a) / 4294967296) % 16777216) ((ldw xs ys a) % 4294967296) om om om om ZZ) ?_
    by_cases h4:1<=a / 4294967296/\a / 4294967296<=2/\(a % 4294967296)<W/\0<=((((ldw xs ys a) / 4294967296) % 16777216) + 2)/\(a % 4294967296) + ((((ldw xs ys a) / 4294967296) % 16777216) + 2)<=W
    ·
     refine qc (othere_1 W xs ys a ((((ldw xs ys a) / 4294967296) % 16777216) + 2) ZZ ZZ ZZ ZZ ZZ ZZ om om)<|kd [] 1 5 []<|qen<|an<|cf<|xw_skip<|an<|kB [] 1 ⟨[(3,.i 0)],(D1 xs ys a W),6⟩ []<|xw_ret<|⟨.i 0,kr,?_⟩
     exact ka [] 1 5 [10,9,8,6,5,4] [5,4,3,2,1,0] []<|en<|an<|kb [(1,.f)] 2 [21,10,9,8,6,5,4] [5,4,3,2,1,0] [nF 0 0]<|cf<|xw_skip<|an<|kB [(1,.i 3)] 3 ⟨[(9,.i 3),(8,.osub 5 1 0 3),(6,.p 3),(5,.i 0),(4,.p 2)],(D1 xs ys a W),6⟩ [⟨IntKind.i64.wrap (2 + 1)=3,rfl⟩]<|xw_seq<|kb [(2,.i 3),(3,.f)] 4 [29,9,8,6,5,4] [5,4,3,2,1,0] [⟨(((3:Nat):Nat):Int)=3,rfl⟩,dF (3<3)]<|cf<|xw_skip<|an<|kb [] 3 [5,9,8,6,4] [5,4,3,2,1,0] [tr,tr]<|xw_ret<|juu_ret<|br (D5 xs ys a) (.tup (D2 xs ys a)) (wk_s [(0,⟨(((ldw xs ys a) / 72057594037927936):Int)=(ldw xs ys a / 72057594037927936),om⟩),(1,⟨((((ldw xs ys a) / 4294967296) % 16777216):Int)=((ldw xs ys a / 4294967296) % 16777216),om⟩),(2,⟨(((ldw xs ys a) % 4294967296):Int)=(ldw xs ys a % 4294967296),om⟩)]) (Or.inl <| ⟨Db1,rfl⟩)
    ·
     refine qc (othere_2 W xs ys a ((((ldw xs ys a) / 4294967296) % 16777216) + 2) ZZ ZZ ZZ ZZ ZZ ZZ om om)<|kd [] 1 5 []<|qen<|an<|ct<|kB [] 1 ⟨[(3,.i 2)],(D1 xs ys a W),6⟩ []<|xw_ret<|an_ret<|⟨.i 2,kr,?_⟩
     exact ka [] 1 5 [10,9,8,6,5,4] [5,4,3,2,1,0] []<|en<|an<|kb [(1,.t)] 2 [21,10,9,8,6,5,4] [5,4,3,2,1,0] [nT 2 0]<|ct<|kB [] 4 ⟨[(5,.i 2),(9,.i 2),(8,.osub 5 1 0 3),(6,.p 3),(4,.p 2)],(D1 xs ys a W),6⟩ [tr]<|xw_ret<|an_ret<|juu_ret<|br D8 (.tup (D6 W xs ys a)) (wk_s [(3,⟨(2:Int)=(oErr W xs ys a),Db1⟩)]) (Or.inr <| ⟨Db1,rfl⟩)
  ·
   refine pc (htake_2 (ldw xs ys a) ZZ ZZ)<|ka [] 5 2 [2] [5,4,3,2,1,0] [tr]<|en<|an<|kB [] 2 ⟨[(2,.i 10)],(D3 xs ys a W),6⟩ []<|xw_ret<|⟨.i 10,kr,?_⟩
   exact ka [] 1 5 [10,9,8,6,5,4] [5,4,3,2,1,0] []<|en<|an<|kb [(1,.t)] 2 [21,10,9,8,6,5,4] [5,4,3,2,1,0] [nT 10 0]<|ct<|kB [] 4 ⟨[(5,.i 10),(9,.i 1),(8,.osub 5 1 0 3),(6,.p 3),(4,.p 2)],(D3 xs ys a W),6⟩ [tr]<|xw_ret<|an_ret<|juu_ret<|br (.tup [.agg [.i 0,.i 0,.u 0],.i 10]) (.tup (D6 W xs ys a)) (wk_s [(3,⟨(10:Int)=(oErr W xs ys a),Db1⟩)]) (Or.inr <| ⟨Db1,rfl⟩)
 ·
  refine pc (load_2 W xs ys a ZZ ZZ ZZ ZZ ZZ ZZ om)<|ka [] 5 3 [3] [5,4,3,2,1,0] [tr]<|en<|an<|kb [] 2 [3] [5,4,3,2,1,0] []<|xw_ret<|⟨.i 2,kr,?_⟩
  exact kA [] 1 5 ⟨[(10,.i 2),(9,.i 0),(8,.osub 5 1 0 3),(6,.p 3),(5,.i 0),(4,.p 2)],(D4 a W xs ys),6⟩ []<|en<|an<|kb [(1,.t)] 2 [21,10,9,8,6,5,4] [5,4,3,2,1,0] [nT 2 0]<|ct<|kb [] 4 [5,9,8,6,4] [5,4,3,2,1,0] [tr]<|xw_ret<|an_ret<|juu_ret<|br D8 (.tup (D6 W xs ys a)) (wk_s [(3,⟨(2:Int)=(oErr W xs ys a),Db1⟩)]) (Or.inr <| ⟨Db1,rfl⟩)
theorem oat_1 (W:Int)(xs ys:List Int)(a:Int)(hp0:16<=W/\W<=4096)(hp1:(xs.length:Int)=W)(hp2:(ys.length:Int)=W)(hp3:U64s xs)(hp4:U64s ys)(hp5:U6 a)(hp6:(oErr W xs ys a)=0):Pub Tryz.prog 79 [.agg (mm W xs ys),.u a] (fun rv=>rv = .tup (D2 xs ys a)) :=
  (oat W xs ys a hp0 hp1 hp2 hp3 hp4 hp5).mono vr
theorem oat_2 (W:Int)(xs ys:List Int)(a:Int)(hp0:16<=W/\W<=4096)(hp1:(xs.length:Int)=W)(hp2:(ys.length:Int)=W)(hp3:U64s xs)(hp4:U64s ys)(hp5:U6 a)(hp6:¬ ((oErr W xs ys a)=0)):Pub Tryz.prog 79 [.agg (mm W xs ys),.u a] (fun rv=>rv = .tup (D6 W xs ys a)) :=
  (oat W xs ys a hp0 hp1 hp2 hp3 hp4 hp5).mono vr
end Go.Proofs.YtmmfpkkamgapkaaGreat.X
