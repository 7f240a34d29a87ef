/- Contracts of Go functions: what each returns,for every input that its premises name; no memory of the caller is touched. Printed by a program. -/
import Derived.Test.YtmmfpkkamgapkaaGreatXb5
import Derived.Test.YtmmfpkkamgapkaaGreatXq6
namespace Go.Proofs.YtmmfpkkamgapkaaGreat.X
open Go Go.RowKit
set_option linter.unusedVariables false
set_option linter.unusedSimpArgs false
abbrev G1(s a l:Int):Nat×Blk:=(0,.cells [.i s,.i a,.i l] 27)
abbrev G2(s a n l:Int):List SV:=[.agg [.i s,.i (a + n),.i l],.u ((s + 1) * 4294967296 + a),.i 0]
abbrev G3:Nat×Blk:=(1,.cells [.i 0,.i 0,.i 0] 27)
abbrev G4(s l a:Int):List SV:=[.agg [.i s,.i l,.i l],.u ((s + 1) * 4294967296 + a),.i (l - a)]
theorem Go{p:Prop}(h:p:=by first|omega|(simp only [G1,G2,G3,G4] at *;first|omega|assumption|(simp;done)|(simp;omega))):p:=h
theorem Gb1{p:Prop}(h:p:=by first | exact decide_eq_true om | exact decide_eq_false om | (simp; done) | (simp; omega) | (simp_all; done) | (simp_all; omega) | grind):p:=h
theorem right (s a l:Int):Pub Tryz.prog 112 [.agg [.i s,.i a,.i l]] (fun rv=>(((s=0\/s=1)/\0<=a/\a<=l/\l<=4096)/\rv = .t)\/((¬ ((s=0\/s=1)/\0<=a/\a<=l/\l<=4096))/\rv = .f)):=by
 refine pub_of TT_ok Tryz.func112 rfl (by decide) nk kr<|kb [] 2 [2,1] [0] []<|xw_seq<|reg<|ka [(2,.bool (s == 0))] 4 0 [6,2,1] [0] [tr,sf (s == 0)]<|splitr 6 (x:=(s == 0)) kr (fun h0=>?_) (fun h0=>?_)
 ·
  replace h0:s=0:=eq_of_beq h0
  refine ka [(11,.bool (decide (0<=a)))] 10 4 [16,2,1] [0] [tr,tr,sf (decide (0<=a)),tr]<|splitr 16 (x:=(decide (0<=a))) kr (fun h1=>?_) (fun h1=>?_)
  ·
   replace h1:0<=a:=of_decide_eq_true h1
   refine kA [(18,.bool (decide (a<=l)))] 7 14 ⟨[(23,.bool (decide (a<=l))),(2,.f),(1,.p 0)],[(G1 s a l)],1⟩ [tr,tr,sf (decide (a<=l)),tr]<|splitr 23 (x:=(decide (a<=l))) kr (fun h2=>?_) (fun h2=>?_)
   ·
    replace h2:a<=l:=of_decide_eq_true h2
    refine ka [(23,.bool (decide (l<=4096)))] 5 21 [2] [] [tr,sf (decide (l<=4096)),tr]<|en<|an<|xw_ret ?_
    by_cases h3:l<=4096
    ·
     exact br (.bool (decide (l<=4096))) (.t) (wk_s [(0,⟨(decide (l<=4096))=true,Gb1⟩)]) (Or.inl <| ⟨om,rfl⟩)
    ·
     exact br (.bool (decide (l<=4096))) (.f) (wk_s [(0,⟨(decide (l<=4096))=false,Gb1⟩)]) (Or.inr <| ⟨om,rfl⟩)
   ·
    replace h2:¬ (a<=l):=of_decide_eq_false h2
    exact ka [] 5 21 [2] [] [tr]<|en<|an<|xw_ret<|bs (.f) (Or.inr <| ⟨om,rfl⟩)
  ·
   replace h1:¬ (0<=a):=of_decide_eq_false h1
   exact kA [] 12 14 ⟨[(2,.f)],[],1⟩ [tr,tr]<|en<|an<|xw_ret<|bs (.f) (Or.inr <| ⟨om,rfl⟩)
 ·
  replace h0:s≠0:=ne_of_beq_false h0
  refine ka [(6,.bool (s == 1))] 5 4 [11,2,1] [0] [tr,sf (s == 1),tr]<|splitr 11 (x:=(s == 1)) kr (fun h1=>?_) (fun h1=>?_)
  ·
   replace h1:s=1:=eq_of_beq h1
   refine kA [(11,.bool (decide (0<=a)))] 5 9 ⟨[(16,.bool (decide (0<=a))),(2,.f),(1,.p 0)],[(G1 s a l)],1⟩ [tr,sf (decide (0<=a)),tr]<|splitr 16 (x:=(decide (0<=a))) kr (fun h2=>?_) (fun h2=>?_)
   ·
    replace h2:0<=a:=of_decide_eq_true h2
    refine ka [(18,.bool (decide (a<=l)))] 7 14 [23,2,1] [0] [tr,tr,sf (decide (a<=l)),tr]<|splitr 23 (x:=(decide (a<=l))) kr (fun h3=>?_) (fun h3=>?_)
    ·
     replace h3:a<=l:=of_decide_eq_true h3
     refine ka [(23,.bool (decide (l<=4096)))] 5 21 [2] [] [tr,sf (decide (l<=4096)),tr]<|en<|an<|xw_ret ?_
     by_cases h4:l<=4096
     ·
      exact br (.bool (decide (l<=4096))) (.t) (wk_s [(0,⟨(decide (l<=4096))=true,Gb1⟩)]) (Or.inl <| ⟨om,rfl⟩)
     ·
      exact br (.bool (decide (l<=4096))) (.f) (wk_s [(0,⟨(decide (l<=4096))=false,Gb1⟩)]) (Or.inr <| ⟨om,rfl⟩)
    ·
     replace h3:¬ (a<=l):=of_decide_eq_false h3
     exact ka [] 5 21 [2] [] [tr]<|en<|an<|xw_ret<|bs (.f) (Or.inr <| ⟨om,rfl⟩)
   ·
    replace h2:¬ (0<=a):=of_decide_eq_false h2
    exact ka [] 12 14 [2] [] [tr,tr]<|en<|an<|xw_ret<|bs (.f) (Or.inr <| ⟨om,rfl⟩)
  ·
   replace h1:s≠1:=ne_of_beq_false h1
   exact kA [] 17 9 ⟨[(2,.f)],[],1⟩ [tr,tr,tr]<|en<|an<|xw_ret<|bs (.f) (Or.inr <| ⟨om,rfl⟩)
theorem right_1 (s a l:Int)(hp0:(s=0\/s=1)/\0<=a/\a<=l/\l<=4096):Pub Tryz.prog 112 [.agg [.i s,.i a,.i l]] (fun rv=>rv = .t) :=
  (right s a l).mono vr
theorem right_2 (s a l:Int)(hp0:¬ ((s=0\/s=1)/\0<=a/\a<=l/\l<=4096)):Pub Tryz.prog 112 [.agg [.i s,.i a,.i l]] (fun rv=>rv = .f) :=
  (right s a l).mono vr
theorem rright (s a l:Int):Pub Tryz.prog 41 [.agg [.i s,.i a,.i l]] (fun rv=>(((s=0\/s=1)/\0<=a/\a<=l/\l<=4096)/\rv = .t)\/((¬ ((s=0\/s=1)/\0<=a/\a<=l/\l<=4096))/\rv = .f)):=by
 refine pub_of TT_ok Tryz.func41 rfl (by decide) nk kr<|kb [] 2 [2,1] [0] []<|xw_seq<|reg<|ka [(2,.bool (decide (0<=s)))] 4 0 [6,2,1] [0] [tr,sf (decide (0<=s))]<|splitr 6 (x:=(decide (0<=s))) kr (fun h0=>?_) (fun h0=>?_)
 ·
  replace h0:0<=s:=of_decide_eq_true h0
  refine ka [(6,.bool (decide (s<=1)))] 5 4 [11,2,1] [0] [tr,sf (decide (s<=1)),tr]<|splitr 11 (x:=(decide (s<=1))) kr (fun h1=>?_) (fun h1=>?_)
  ·
   replace h1:s<=1:=of_decide_eq_true h1
   refine kA [(11,.bool (decide (0<=a)))] 5 9 ⟨[(16,.bool (decide (0<=a))),(2,.f),(1,.p 0)],[(G1 s a l)],1⟩ [tr,sf (decide (0<=a)),tr]<|splitr 16 (x:=(decide (0<=a))) kr (fun h2=>?_) (fun h2=>?_)
   ·
    replace h2:0<=a:=of_decide_eq_true h2
    refine ka [(18,.bool (decide (a<=l)))] 7 14 [23,2,1] [0] [tr,tr,sf (decide (a<=l)),tr]<|splitr 23 (x:=(decide (a<=l))) kr (fun h3=>?_) (fun h3=>?_)
    ·
     replace h3:a<=l:=of_decide_eq_true h3
     refine ka [(23,.bool (decide (l<=4096)))] 5 21 [2] [] [tr,sf (decide (l<=4096)),tr]<|en<|an<|xw_ret ?_
     by_cases h4:l<=4096
     ·
      exact br (.bool (decide (l<=4096))) (.t) (wk_s [(0,⟨(decide (l<=4096))=true,Gb1⟩)]) (Or.inl <| ⟨om,rfl⟩)
     ·
      exact br (.bool (decide (l<=4096))) (.f) (wk_s [(0,⟨(decide (l<=4096))=false,Gb1⟩)]) (Or.inr <| ⟨om,rfl⟩)
    ·
     replace h3:¬ (a<=l):=of_decide_eq_false h3
     exact ka [] 5 21 [2] [] [tr]<|en<|an<|xw_ret<|bs (.f) (Or.inr <| ⟨om,rfl⟩)
   ·
    replace h2:¬ (0<=a):=of_decide_eq_false h2
    exact ka [] 12 14 [2] [] [tr,tr]<|en<|an<|xw_ret<|bs (.f) (Or.inr <| ⟨om,rfl⟩)
  ·
   replace h1:¬ (s<=1):=of_decide_eq_false h1
   exact kA [] 17 9 ⟨[(2,.f)],[],1⟩ [tr,tr,tr]<|en<|an<|xw_ret<|bs (.f) (Or.inr <| ⟨om,rfl⟩)
 ·
  replace h0:¬ (0<=s):=of_decide_eq_false h0
  exact ka [] 22 4 [2] [] [tr,tr,tr,tr]<|en<|an<|xw_ret<|bs (.f) (Or.inr <| ⟨om,rfl⟩)
theorem rright_1 (s a l:Int)(hp0:(s=0\/s=1)/\0<=a/\a<=l/\l<=4096):Pub Tryz.prog 41 [.agg [.i s,.i a,.i l]] (fun rv=>rv = .t) :=
  (rright s a l).mono vr
theorem rright_2 (s a l:Int)(hp0:¬ ((s=0\/s=1)/\0<=a/\a<=l/\l<=4096)):Pub Tryz.prog 41 [.agg [.i s,.i a,.i l]] (fun rv=>rv = .f) :=
  (rright s a l).mono vr
theorem left (s a l:Int):Pub Tryz.prog 95 [.agg [.i s,.i a,.i l]] (fun rv=>(((s=0\/s=1)/\0<=a/\a<=l/\l<=4096)/\rv = .i (l - a))\/((¬ ((s=0\/s=1)/\0<=a/\a<=l/\l<=4096))/\rv = .i 0)):=by
 refine pub_of TT_ok Tryz.func95 rfl (by decide) nk kr<|kb [] 2 [2,1] [0] []<|xw_seq<|xw_seq<|reg<|ka [] 1 0 [3,2,1] [0] [tr] ?_
 by_cases h0:(s=0\/s=1)/\0<=a/\a<=l/\l<=4096
 ·
  exact pc (right_1 s a l ZZ)<|ka [] 1 2 [5,2,1] [0] []<|en<|an<|cf<|xw_skip<|an<|kB [(4,.i (l - a))] 6 ⟨[(2,.i (l - a))],[],1⟩ [tr,tr,w6 (l - a)]<|xw_ret<|bs (.i (l - a)) (Or.inl <| ⟨om,rfl⟩)
 ·
  exact pc (right_2 s a l ZZ)<|ka [] 1 2 [5,2,1] [0] []<|en<|an<|ct<|kB [] 1 ⟨[(2,.i 0),(1,.p 0)],[(G1 s a l)],1⟩ []<|xw_ret<|an_ret<|bs (.i 0) (Or.inr <| ⟨om,rfl⟩)
theorem left_1 (s a l:Int)(hp0:(s=0\/s=1)/\0<=a/\a<=l/\l<=4096):Pub Tryz.prog 95 [.agg [.i s,.i a,.i l]] (fun rv=>rv = .i (l - a)) :=
  (left s a l).mono vr
theorem take (s a l n:Int):Pub Tryz.prog 94 [.agg [.i s,.i a,.i l],.i n] (fun rv=>(((s=0\/s=1)/\0<=a/\a<=l/\l<=4096)/\(1<=n)/\(n<=l - a)/\rv = .tup (G2 s a n l))\/(((s=0\/s=1)/\0<=a/\a<=l/\l<=4096)/\(1<=n)/\(l - a<n)/\rv = .tup [.agg [.i s,.i a,.i l],.u 0,.i 4])\/((¬ (((s=0\/s=1)/\0<=a/\a<=l/\l<=4096)/\1<=n))/\rv = .tup [.agg [.i s,.i a,.i l],.u 0,.i 1])):=by
 refine pub_of TT_ok Tryz.func94 rfl (by decide) nk kr<|kb [] 5 [6,5,4,3,2] [2,1,0] []<|kb [] 1 [7,6,5,4,3,2] [2,1,0] []<|kb [] 2 [8,7,6,5,4,3,2] [2,1,0] []<|xw_seq<|xw_block<|xw_seq<|xw_block<|xw_seq<|xw_block<|xw_seq<|xw_seq<|reg<|kA [] 1 0 ⟨[(12,.agg [.i s,.i a,.i l]),(8,.fn 111 [] [.p 1,.p 0]),(7,.i 1),(6,.i 0),(5,.u 0),(4,.p 2),(3,.p 1),(2,.p 0)],[(2,.cells [.i 0,.i 0,.i 0] 27),(1,.cells [.i n] 3),(G1 s a l)],3⟩ [tr] ?_
 by_cases h0:(s=0\/s=1)/\0<=a/\a<=l/\l<=4096
 ·
  refine pc (right_1 s a l ZZ)<|ka [(4,.bool (decide (1<=n)))] 5 2 [11,8,7,6,5,4,3,2] [2,1,0] [tr,sf (decide (1<=n)),tr]<|en<|an<|xcD (1<=n) (fun h1=>?_) (fun h1=>?_)
  ·
   refine xw_exit<|an_exit<|ib_same<|an<|kb [] 1 [7,8,6,5,4,3,2] [2,1,0] []<|xw_seq<|reg<|ka [] 1 0 [18,7,6,5,4,3,2] [2,1,0] []<|callx (f:=111) (args:=[.p 1,.p 0]) (d:=(some 19)) kr (xcall_of TT_ok Tryz.func111 rfl (by decide) nk ?_)
   refine kB [] 1 ⟨[(2,.f),(0,.p 1),(1,.p 0)],[(2,.cells [.i 0,.i 0,.i 0] 27),(1,.cells [.i n] 3),(G1 s a l)],3⟩ []<|xw_seq<|dregk hmix kr<|kd [] 2 0 [tr,tr]<|qc (left_1 s a l ZZ)<|kd [(3,.bool (decide (n<=(l - a))))] 2 3 [sf (decide (n<=(l - a)))]<|qen<|an<|xw_ret<|⟨.bool (decide (n<=(l - a))),kr,?_⟩
   refine en<|an<|xcD (n<=(l - a)) (fun h2=>?_) (fun h2=>?_)
   ·
    exact xw_exit<|ib_exit kr<|an_exit<|ib_same<|an<|xw_seq<|reg<|kA [] 4 0 ⟨[(25,.i a),(23,.i s),(6,.i 0),(5,.u 0),(4,.p 2),(3,.p 1),(2,.p 0)],[(2,.cells [.i 0,.i 0,.i 0] 27),(1,.cells [.i n] 3),(G1 s a l)],3⟩ [tr,tr]<|pc (addr_1 s a om)<|ka [] 1 5 [9,6,5,4,3,2] [2,1,0] []<|en<|an<|kb [(3,.i (a + n))] 6 [9,6,5,4,2] [2,0] [tr,tr,w6 (a + n),tr]<|kb [] 5 [6,5,4] [2] [tr,tr]<|xw_ret<|bs (.tup (G2 s a n l)) (Or.inl <| ⟨om,om,om,rfl⟩)
   ·
    exact xw_skip<|ib<|an<|xw_seq<|kB [] 5 ⟨[(6,.i 4),(5,.u 0),(4,.p 2),(3,.p 1),(2,.p 0)],[(2,.cells [.i s,.i a,.i l] 27),(1,.cells [.i n] 3),(G1 s a l)],3⟩ [tr,tr]<|xw_ret<|an_ret<|ib_ret<|an_ret<|bs (.tup [.agg [.i s,.i a,.i l],.u 0,.i 4]) (Or.inr <| Or.inl <| ⟨om,om,om,rfl⟩)
  ·
   exact xw_skip<|an<|xw_exit<|ib_exit kr<|an_exit<|ib_same<|an<|xw_seq<|kb [] 5 [6,5,4,3,2] [2,1,0] [tr,tr]<|xw_ret<|an_ret<|ib_ret<|an_ret<|bs (.tup [.agg [.i s,.i a,.i l],.u 0,.i 1]) (Or.inr <| Or.inr <| ⟨om,rfl⟩)
 ·
  exact pc (right_2 s a l ZZ)<|ka [] 5 2 [11,8,7,6,5,4,3,2] [2,1,0] [tr]<|en<|an<|cf<|xw_skip<|an<|xw_exit<|ib_exit kr<|an_exit<|ib_same<|an<|xw_seq<|kb [] 5 [6,5,4,3,2] [2,1,0] [tr,tr]<|xw_ret<|an_ret<|ib_ret<|an_ret<|bs (.tup [.agg [.i s,.i a,.i l],.u 0,.i 1]) (Or.inr <| Or.inr <| ⟨om,rfl⟩)
theorem take_1 (s a l n:Int)(hp0:(s=0\/s=1)/\0<=a/\a<=l/\l<=4096)(hp1:1<=n)(hp2:n<=l - a):Pub Tryz.prog 94 [.agg [.i s,.i a,.i l],.i n] (fun rv=>rv = .tup (G2 s a n l)) :=
  (take s a l n).mono vr
theorem take_2 (s a l n:Int)(hp0:(s=0\/s=1)/\0<=a/\a<=l/\l<=4096)(hp1:1<=n)(hp2:l - a<n):Pub Tryz.prog 94 [.agg [.i s,.i a,.i l],.i n] (fun rv=>rv = .tup [.agg [.i s,.i a,.i l],.u 0,.i 4]) :=
  (take s a l n).mono vr
theorem take_3 (s a l n:Int)(hp0:¬ (((s=0\/s=1)/\0<=a/\a<=l/\l<=4096)/\1<=n)):Pub Tryz.prog 94 [.agg [.i s,.i a,.i l],.i n] (fun rv=>rv = .tup [.agg [.i s,.i a,.i l],.u 0,.i 1]) :=
  (take s a l n).mono vr
set_option maxHeartbeats 8000000 in
theorem most (s a l n:Int):Pub Tryz.prog 97 [.agg [.i s,.i a,.i l],.i n] (fun rv=>(((s=0\/s=1)/\0<=a/\a<=l/\l<=4096)/\(1<=n)/\(n<=l - a)/\rv = .tup [.agg [.i s,.i (a + n),.i l],.u ((s + 1) * 4294967296 + a),.i n])\/(((s=0\/s=1)/\0<=a/\a<=l/\l<=4096)/\(l - a<n)/\(0<l - a)/\rv = .tup (G4 s l a))\/((¬ (((s=0\/s=1)/\0<=a/\a<=l/\l<=4096)/\1<=n/\0<l - a))/\rv = .tup [.agg [.i s,.i a,.i l],.u 0,.i 0])):=by
 refine pub_of TT_ok Tryz.func97 rfl (by decide) nk kr<|kb [] 4 [6,5,4,2,1] [1,0] []<|xw_scope (α:={q:Int // ((s=0\/s=1)/\0<=a/\a<=l/\l<=4096)/\(q=l - a)/\(0<q)/\(l - a<n)}) 0 rfl (fun p=>⟨[(6,.i 0),(5,.u 0),(4,.p 1),(2,.p 0),(1,.i p.1)],[G3,(G1 s a l)],2⟩) (fun p=>0) ?_ ?_
 ·
  refine xw_seq<|xw_label<|an<|xw_seq<|reg<|ka [] 2 0 [12,11,6,5,4,2,1] [1,0] [tr] ?_
  by_cases h0:((s=0\/s=1)/\0<=a/\a<=l/\l<=4096)/\(1<=n)/\(n<=l - a)
  ·
   exact pc (take_1 s a l n om om om)<|ka [] 8 3 [9,8,7,16,15,14,10,13,12,11,6,5,4,2,1] [2,1,0] [tr]<|en<|an<|xw_seq<|kB [(1,.f)] 7 ⟨[(23,.f),(22,.tup []),(21,.tup []),(20,.tup []),(19,.f),(18,.f),(17,.i 0),(9,.i 0),(8,.u ((s + 1) * 4294967296 + a)),(7,.p 2),(16,.i 0),(15,.u ((s + 1) * 4294967296 + a)),(14,.agg [.i s,.i (a + n),.i l]),(10,.tup (G2 s a n l)),(13,.tup (G2 s a n l)),(12,.i n),(11,.agg [.i s,.i a,.i l]),(6,.i 0),(5,.u 0),(4,.p 1),(2,.p 0),(1,.i n)],[(2,.cells [.i s,.i (a + n),.i l] 27),G3,(G1 s a l)],3⟩ [qF 0 4,tr]<|cf<|xw_skip<|an<|xw_seq<|kb [(1,.f)] 2 [27,26,23,22,21,20,19,18,17,9,8,7,16,15,14,10,13,12,11,6,5,4,2,1] [2,1,0] [nF 0 0]<|cf<|xw_skip<|an<|kb [] 6 [6,5,31,30,29,27,26,23,22,21,20,19,18,17,9,8,7,16,15,14,10,13,12,11,4,2,1] [2,1,0] [tr,tr]<|xw_ret<|j0_ret<|bs (.tup [.agg [.i s,.i (a + n),.i l],.u ((s + 1) * 4294967296 + a),.i n]) (Or.inl <| ⟨om,om,om,rfl⟩)
  ·
   by_cases h1:((s=0\/s=1)/\0<=a/\a<=l/\l<=4096)/\(1<=n)/\(l - a<n)
   ·
    refine pc (take_2 s a l n om om om)<|ka [] 8 3 [9,8,7,16,15,14,10,13,12,11,6,5,4,2,1] [2,1,0] [tr]<|en<|an<|xw_seq<|xw_seq<|reg<|kA [(1,.t)] 4 0 ⟨[(20,.agg [.i s,.i a,.i l]),(19,.t),(18,.t),(17,.i 4),(9,.i 4),(8,.u 0),(7,.p 2),(16,.i 4),(15,.u 0),(14,.agg [.i s,.i a,.i l]),(10,.tup [.agg [.i s,.i a,.i l],.u 0,.i 4]),(13,.tup [.agg [.i s,.i a,.i l],.u 0,.i 4]),(12,.i n),(11,.agg [.i s,.i a,.i l]),(6,.i 0),(5,.u 0),(4,.p 1),(2,.p 0),(1,.i n)],[(2,.cells [.i s,.i a,.i l] 27),G3,(G1 s a l)],3⟩ [qT 4 4,tr]<|pc (left_1 s a l om)<|ka [(5,.bool (decide (0<(l - a))))] 2 5 [23,22,21,20,19,18,17,9,8,7,16,15,14,10,13,12,11,6,5,4,2,1] [2,1,0] [sf (decide (0<(l - a))),tr]<|en<|an<|xcD (0<(l - a)) (fun h2=>?_) (fun h2=>?_)
    ·
     exact xw_seq<|reg<|ka [] 1 0 [24,23,22,21,20,19,18,17,9,8,7,16,15,14,10,13,12,11,6,5,4,2,1] [2,1,0] [tr]<|pc (left_1 s a l om)<|ka [] 1 2 [1,25,24,23,22,21,20,19,18,17,9,8,7,16,15,14,10,13,12,11,6,5,4,2] [2,1,0] []<|en<|an<|xw_goto<|an_goto<|j0_goto ⟨(l - a),⟨om,om,om,om⟩⟩ (le_s [])
    ·
     exact xw_skip<|an<|xw_seq<|kb [(1,.t)] 2 [27,26,23,22,21,20,19,18,17,9,8,7,16,15,14,10,13,12,11,6,5,4,2,1] [2,1,0] [nT 4 0]<|ct<|kb [] 4 [6,5,28,27,26,23,22,21,20,19,18,17,9,8,7,16,15,14,10,13,12,11,4,2,1] [2,1,0] [tr,tr]<|xw_ret<|an_ret<|j0_ret<|bs (.tup [.agg [.i s,.i a,.i l],.u 0,.i 0]) (Or.inr <| Or.inr <| ⟨om,rfl⟩)
   ·
    exact pc (take_3 s a l n om)<|ka [] 8 3 [9,8,7,16,15,14,10,13,12,11,6,5,4,2,1] [2,1,0] [tr]<|en<|an<|xw_seq<|kB [(1,.f)] 7 ⟨[(23,.f),(22,.tup []),(21,.tup []),(20,.tup []),(19,.f),(18,.f),(17,.i 1),(9,.i 1),(8,.u 0),(7,.p 2),(16,.i 1),(15,.u 0),(14,.agg [.i s,.i a,.i l]),(10,.tup [.agg [.i s,.i a,.i l],.u 0,.i 1]),(13,.tup [.agg [.i s,.i a,.i l],.u 0,.i 1]),(12,.i n),(11,.agg [.i s,.i a,.i l]),(6,.i 0),(5,.u 0),(4,.p 1),(2,.p 0),(1,.i n)],[(2,.cells [.i s,.i a,.i l] 27),G3,(G1 s a l)],3⟩ [qF 1 4,tr]<|cf<|xw_skip<|an<|xw_seq<|kb [(1,.t)] 2 [27,26,23,22,21,20,19,18,17,9,8,7,16,15,14,10,13,12,11,6,5,4,2,1] [2,1,0] [nT 1 0]<|ct<|kb [] 4 [6,5,28,27,26,23,22,21,20,19,18,17,9,8,7,16,15,14,10,13,12,11,4,2,1] [2,1,0] [tr,tr]<|xw_ret<|an_ret<|j0_ret<|bs (.tup [.agg [.i s,.i a,.i l],.u 0,.i 0]) (Or.inr <| Or.inr <| ⟨om,rfl⟩)
 ·
  rintro ⟨k,h0,h1,h2,h3⟩
  show XW _ _ _ _ _ _ ⟨[(6,.int .i64 0),(5,.int .u64 0),(4,.loc 1 0),(2,.loc 0 0),(1,.int .i64 k)],[(1,.cells [.int .i64 0,.int .i64 0,.int .i64 0] 27),(0,.cells [.int .i64 s,.int .i64 a,.int .i64 l] 27)],2⟩
  exact xw_seq<|xw_skip<|an<|xw_seq<|reg<|ka [] 2 0 [12,11,6,5,4,2,1] [1,0] [tr]<|pc (take_1 s a l k ZZ om om)<|ka [] 8 3 [9,8,7,16,15,14,10,13,12,11,6,5,4,2,1] [2,1,0] [tr]<|en<|an<|xw_seq<|kb [(1,.f)] 7 [23,22,21,20,19,18,17,9,8,7,16,15,14,10,13,12,11,6,5,4,2,1] [2,1,0] [qF 0 4,tr]<|cf<|xw_skip<|an<|xw_seq<|kB [(1,.f)] 2 ⟨[(27,.f),(26,.i 0),(23,.f),(22,.tup []),(21,.tup []),(20,.tup []),(19,.f),(18,.f),(17,.i 0),(9,.i 0),(8,.u ((s + 1) * 4294967296 + a)),(7,.p 2),(16,.i 0),(15,.u ((s + 1) * 4294967296 + a)),(14,.agg [.i s,.i (a + k),.i l]),(10,.tup [.agg [.i s,.i (a + k),.i l],.u ((s + 1) * 4294967296 + a),.i 0]),(13,.tup [.agg [.i s,.i (a + k),.i l],.u ((s + 1) * 4294967296 + a),.i 0]),(12,.i k),(11,.agg [.i s,.i a,.i l]),(6,.i 0),(5,.u 0),(4,.p 1),(2,.p 0),(1,.i k)],[(2,.cells [.i s,.i (a + k),.i l] 27),G3,(G1 s a l)],3⟩ [nF 0 0]<|cf<|xw_skip<|an<|kb [] 6 [6,5,31,30,29,27,26,23,22,21,20,19,18,17,9,8,7,16,15,14,10,13,12,11,4,2,1] [2,1,0] [tr,tr]<|xw_ret<|j1_ret<|br (.tup [.agg [.i s,.i (a + k),.i l],.u ((s + 1) * 4294967296 + a),.i k]) (.tup (G4 s l a)) (wk_s [(1,⟨((a + k):Int)=l,om⟩),(4,⟨(k:Int)=(l - a),om⟩)]) (Or.inr <| Or.inl <| ⟨om,om,om,rfl⟩)
theorem most_1 (s a l n:Int)(hp0:(s=0\/s=1)/\0<=a/\a<=l/\l<=4096)(hp1:1<=n)(hp2:n<=l - a):Pub Tryz.prog 97 [.agg [.i s,.i a,.i l],.i n] (fun rv=>rv = .tup [.agg [.i s,.i (a + n),.i l],.u ((s + 1) * 4294967296 + a),.i n]) :=
  (most s a l n).mono vr
theorem most_2 (s a l n:Int)(hp0:(s=0\/s=1)/\0<=a/\a<=l/\l<=4096)(hp1:l - a<n)(hp2:0<l - a):Pub Tryz.prog 97 [.agg [.i s,.i a,.i l],.i n] (fun rv=>rv = .tup (G4 s l a)) :=
  (most s a l n).mono vr
set_option linter.unusedVariables false
set_option linter.unusedSimpArgs false
abbrev J1(W:Int)(xs:List Int)(s p q b t f m:Int)(ys:List Int)(n l:Int):List SV:=[.agg (mr W (px (rtx xs s p q) ((s + 1) * 4294967296 + b) t f m) (py (rty ys s p q) ((s + 1) * 4294967296 + b) t f m) (r5 s (b + (min n (l - b))) l (b + (f + 2)) (b + (min n (l - b))))),.u ((s + 1) * 4294967296 + b),.i 0]
abbrev J2(W:Int)(xs:List Int)(s p q b t f m:Int)(ys:List Int)(l:Int):=mr W (px (rtx xs s p q) ((s + 1) * 4294967296 + b) t f m) (py (rty ys s p q) ((s + 1) * 4294967296 + b) t f m) (r5 s l l (b + (f + 2)) (b + (l - b)))
abbrev J3(W:Int)(xs:List Int)(s p q b t f m:Int)(ys:List Int)(n l:Int):=mr W (px (rtx xs s p q) ((s + 1) * 4294967296 + b) t f m) (py (rty ys s p q) ((s + 1) * 4294967296 + b) t f m) (r5 s (b + n) l (b + (f + 2)) (b + n))
abbrev J4(t f m:Int):Nat×Blk:=(1,.cells [.i t,.i f,.u m] 58)
abbrev J5(W:Int)(xs:List Int)(s p t f m:Int)(ys:List Int)(b l q:Int):=mr W (px xs ((s + 1) * 4294967296 + p) t f m) (py ys ((s + 1) * 4294967296 + p) t f m) (r5 s b l (p + (f + 2)) q)
abbrev J6(W:Int)(xs:List Int)(s b t f m:Int)(ys:List Int)(l p q:Int):=mr W (px xs ((s + 1) * 4294967296 + b) t f m) (py ys ((s + 1) * 4294967296 + b) t f m) (r5 s (b + (f + 2)) l p q)
abbrev J7:Nat×SV:=(10,.fn 90 [] [.p 0,.p 1])
abbrev J8(xs:List Int)(s p q:Int):=px xs ((s + 1) * 4294967296 + p) 255 ((q - p) - 1) 0
abbrev J9(ys:List Int)(s p q:Int):=py ys ((s + 1) * 4294967296 + p) 255 ((q - p) - 1) 0
theorem Jb2{p:Prop}(h:p:=by first | rfl | omega):p:=h
theorem Jb1{p:Prop}(h:p:=by first | rfl | omega | exact congrArg _ (rtx_p om) | exact congrArg _ (rty_p om) | exact congrArg _ (rtx_0 om) | exact congrArg _ (rty_0 om)):p:=h
theorem gap (W:Int)(xs ys:List Int)(s b l p q:Int)(hp0:0<=p/\p<=q/\q<=4096):Pub Tryz.prog 92 [.agg (mr W xs ys (r5 s b l p q))] (fun rv=>rv = .i (q - p)):=by
 exact pub_of TT_ok Tryz.func92 rfl (by decide) nk kr<|kb [] 2 [2,1] [0] []<|kb [(6,.i (q - p))] 8 [2] [] [tr,tr,w6 (q - p)]<|xw_ret<|bs (.i (q - p)) rfl
theorem retire (W:Int)(xs ys:List Int)(s b l p q:Int)(hp0:16<=W/\W<=4096)(hp1:(xs.length:Int)=W)(hp2:(ys.length:Int)=W)(hp3:U64s xs)(hp4:U64s ys)(hp5:(s=0\/s=1)/\0<=b/\b<=l/\l<=4096)(hp6:l=W)(hp7:0<=p/\p<=q/\q<=b):Pub Tryz.prog 96 [.agg (mr W xs ys (r5 s b l p q))] (fun rv=>rv = .agg (mr W (rtx xs s p q) (rty ys s p q) (r5 s b l 0 0))):=by
 refine pub_of TT_ok Tryz.func96 rfl (by decide) nk kr<|kb [] 2 [2,1] [1,0] []<|xw_seq<|xw_seq<|reg<|ka [] 1 0 [3,2,1] [1,0] [tr]<|pc (gap W xs ys s b l p q om)<|ka [(2,.bool (decide (0<(q - p))))] 1 2 [5,2,1] [1,0] [sf (decide (0<(q - p)))]<|en<|an<|xcD (0<(q - p)) (fun h0=>?_) (fun h0=>?_)
 ·
  refine sreg hmix [([(1,.cells z8 132),(0,.cells (mr W xs ys (r5 s b l p q)) 132)],2),([(1,.cells z8 132),(0,.cells (mr W (J8 xs s p q) (J9 ys s p q) (r5 s b l p q)) 132)],2)] [16] [(1,[0]),(3,[2]),(4,[2,3]),(6,[5]),(7,[5,6]),(8,[2,3,4,5,6,7]),(10,[2,3,4,5,6,7,8,9]),(11,[0,1,2,3,4,5,6,7,8,9,10]),(12,[0,1,2,3,4,5,6,7,8,9,10,11]),(13,[0,1,2,3,4,5,6,7,8,9,10,11,12]),(14,[0,1,2,3,4,5,6,7,8,9,10,11,12]),(15,[0,1,2,3,4,5,6,7,8,9,10,11,12,13]),(16,[0,1,2,3,4,5,6,7,8,9,10,11,12,13,15])] kr kr kr kr kr<|ke [] 8 0 [tr,tr,tr,tr,tr,tr,tr,tr]<|sc (addr_1 s p om)<|ke [] 1 9 [tr]<|sc (gap W xs ys s b l p q om)<|sc (ofill_1 W xs ys ((s + 1) * 4294967296 + p) (q - p) ZZ ZZ ZZ ZZ ZZ om om om om om) ?_
  obtain ⟨h1,h2,h3,h4,h5,h6⟩:=fill_ok W xs ys ((s + 1) * 4294967296 + p) (q - p) ZZ ZZ ZZ ZZ om om om om
  exact ke [] 5 12 [tr,tr,tr,tr,tr,sf ([(1,.cells z8 132),(0,.cells (mr W (J8 xs s p q) (J9 ys s p q) (r5 s b l p q)) 132)] : Mem),sf (2:Nat)]<|sen<|an<|kB [] 3 ⟨[(2,.p 1),(1,.p 0)],[(1,.cells z8 132),(0,.cells (mr W (J8 xs s p q) (J9 ys s p q) (r5 s b l 0 0)) 132)],2⟩ [tr]<|kb [] 2 [2] [1] [tr,tr]<|xw_ret<|br (.agg (mr W (J8 xs s p q) (J9 ys s p q) (r5 s b l 0 0))) (.agg (mr W (rtx xs s p q) (rty ys s p q) (r5 s b l 0 0))) (wk_s [(2,⟨(m64 (J8 xs s p q))=(m64 (rtx xs s p q)),Jb1⟩),(4,⟨(m64 (J9 ys s p q))=(m64 (rty ys s p q)),Jb1⟩)]) rfl
 ·
  exact xw_skip<|an<|kB [] 3 ⟨[(2,.p 1),(1,.p 0)],[(1,.cells z8 132),(0,.cells (mr W xs ys (r5 s b l 0 0)) 132)],2⟩ [tr]<|kb [] 2 [2] [1] [tr,tr]<|xw_ret<|br (.agg (mr W xs ys (r5 s b l 0 0))) (.agg (mr W (rtx xs s p q) (rty ys s p q) (r5 s b l 0 0))) (wk_s [(2,⟨(m64 xs)=(m64 (rtx xs s p q)),Jb1⟩),(4,⟨(m64 ys)=(m64 (rty ys s p q)),Jb1⟩)]) rfl
set_option maxHeartbeats 8000000 in
set_option maxHeartbeats 8000000 in
theorem bmake (W:Int)(xs ys:List Int)(s b l p q n t f m:Int)(hp0:16<=W/\W<=4096)(hp1:(xs.length:Int)=W)(hp2:(ys.length:Int)=W)(hp3:U64s xs)(hp4:U64s ys)(hp5:(s=0\/s=1)/\0<=b/\b<=l/\l<=4096)(hp6:l=W)(hp7:0<=p/\p<=q/\q<=b)(hp8:I6 t)(hp9:I6 f)(hp10:U6 m)(hp11:I6 n):Pub Tryz.prog 77 [.agg (mr W xs ys (r5 s b l p q)),.agg [.i t,.i f,.u m],.i n] (fun rv=>((¬ (((t=255/\0<=f/\f<=65535/\m=0)\/(1<=t/\t<=200/\0<=f/\f<=16/\m<2 ^ (Int.toNat f)/\m<65536))/\t≠255))/\rv = .tup [.agg (mr W xs ys (r5 s b l p q)),.u 0,.i 1])\/(((t=255/\0<=f/\f<=65535/\m=0)\/(1<=t/\t<=200/\0<=f/\f<=16/\m<2 ^ (Int.toNat f)/\m<65536))/\(t≠255)/\(f + 2<=q - p)/\rv = .tup [.agg (J5 W xs s p t f m ys b l q),.u ((s + 1) * 4294967296 + p),.i 0])\/(((t=255/\0<=f/\f<=65535/\m=0)\/(1<=t/\t<=200/\0<=f/\f<=16/\m<2 ^ (Int.toNat f)/\m<65536))/\(t≠255)/\(q - p<f + 2)/\(n<2 * (f + 2))/\(f + 2<=l - b)/\rv = .tup [.agg (J6 W xs s b t f m ys l p q),.u ((s + 1) * 4294967296 + b),.i 0])\/(((t=255/\0<=f/\f<=65535/\m=0)\/(1<=t/\t<=200/\0<=f/\f<=16/\m<2 ^ (Int.toNat f)/\m<65536))/\(t≠255)/\(q - p<f + 2)/\(n<2 * (f + 2))/\(l - b<f + 2)/\rv = .tup [.agg (mr W xs ys (r5 s b l p q)),.u 0,.i 4])\/(((t=255/\0<=f/\f<=65535/\m=0)\/(1<=t/\t<=200/\0<=f/\f<=16/\m<2 ^ (Int.toNat f)/\m<65536))/\(t≠255)/\(q - p<f + 2)/\(2 * (f + 2)<=n)/\(l - b<f + 2)/\rv = .tup [.agg (mr W (rtx xs s p q) (rty ys s p q) (r5 s b l 0 0)),.u 0,.i 4])\/(((t=255/\0<=f/\f<=65535/\m=0)\/(1<=t/\t<=200/\0<=f/\f<=16/\m<2 ^ (Int.toNat f)/\m<65536))/\(t≠255)/\(q - p<f + 2)/\(2 * (f + 2)<=n)/\(f + 2<=l - b)/\rv = .tup (J1 W xs s p q b t f m ys n l))):=by
 refine pub_of TT_ok Tryz.func77 rfl (by decide) nk kr<|kb [] 5 [8,7,6,4,3,2] [2,1,0] []<|xw_scope_u 0 2 rfl<|xw_seq<|xw_seq<|reg<|ka [] 1 0 [18,8,7,6,4,3,2] [2,1,0] [tr] ?_
 by_cases h0:(t=255/\0<=f/\f<=65535/\m=0)\/(1<=t/\t<=200/\0<=f/\f<=16/\m<2 ^ (Int.toNat f)/\m<65536)
 ·
  refine pc (hright_1 t f m ZZ ZZ ZZ ZZ)<|ka [(2,.f),(6,.bool (t == 255))] 6 2 [25,8,7,6,4,3,2] [2,1,0] [nF 0 0,tr,sf (t == 255),tr]<|en<|an<|xcE t 255 (fun h1=>?_) (fun h1=>?_)
  ·
   exact kB [] 4 ⟨[(8,.i 1),(7,.u 0),(6,.p 2),(4,.p 1),(3,.p 0),(2,.i n)],[(2,.cells (mr W xs ys (r5 s b l p q)) 132),(J4 t f m),(0,.cells (mr W xs ys (r5 s b l p q)) 132)],3⟩ [tr,tr]<|xw_ret<|an_ret<|juu_ret<|bs (.tup [.agg (mr W xs ys (r5 s b l p q)),.u 0,.i 1]) (Or.inl <| ⟨Jb2,rfl⟩)
  ·
   refine xw_skip<|an<|xw_seq<|reg<|kA [] 1 0 ⟨[(27,.agg [.i t,.i f,.u m]),(8,.i 0),(7,.u 0),(6,.p 2),(4,.p 1),(3,.p 0),(2,.i n)],[(2,.cells z8 132),(J4 t f m),(0,.cells (mr W xs ys (r5 s b l p q)) 132)],3⟩ [tr]<|pc (hwords_2 t f m ZZ ZZ ZZ om om)<|ka [] 1 2 [9,8,7,6,4,3,2] [2,1,0] []<|en<|an<|kb [] 2 [10,9,8,7,6,3,2] [2,1,0] []<|xw_seq<|xw_label<|an<|xw_seq<|xw_block<|xw_seq<|xw_block<|xw_seq<|xw_block<|xw_seq<|xw_block<|xw_seq<|xw_seq<|xw_seq ?_
   refine reg<|ka [] 2 0 [32,31,10,9,8,7,6,3,2] [2,1,0] [tr]<|pc (gap W xs ys s b l p q om)<|kA [(3,.bool (decide ((f + 2)<=(q - p))))] 2 3 ⟨[(30,.bool (decide ((f + 2)<=(q - p)))),J7,(9,.i (f + 2)),(8,.i 0),(7,.u 0),(6,.p 2),(3,.p 0),(2,.i n)],[(2,.cells z8 132),(J4 t f m),(0,.cells (mr W xs ys (r5 s b l p q)) 132)],3⟩ [sf (decide ((f + 2)<=(q - p)))]<|en<|an<|xcD ((f + 2)<=(q - p)) (fun h2=>?_) (fun h2=>?_)
   ·
    refine xw_exit<|an_exit<|an_exit<|ib_same<|an<|xw_seq<|xw_seq<|reg<|ka [] 6 0 [51,48,10,9,8,7,6,3,2] [2,1,0] [tr,tr]<|pc (addr_1 s p om)<|ka [] 1 7 [11,10,9,8,7,6,3,2] [2,1,0] []<|en<|an<|kb [(4,.i (p + (f + 2)))] 8 [11,10,9,8,7,6,3,2] [2,1,0] [tr,w6 (p + (f + 2)),tr]<|xw_seq<|reg<|kA [] 2 0 ⟨[(61,.u ((s + 1) * 4294967296 + p)),(60,.fn 90 [] [.p 0,.p 1]),J7,(9,.i (f + 2)),(8,.i 0),(7,.u 0),(6,.p 2),(3,.p 0),(2,.i n)],[(2,.cells z8 132),(J4 t f m),(0,.cells (mr W xs ys (r5 s b l (p + (f + 2)) q)) 132)],3⟩ []<|callx (f:=90) (args:=[.u ((s + 1) * 4294967296 + p),.p 0,.p 1]) (d:=(some 62)) kr (xcall_of TT_ok Tryz.func90 rfl (by decide) nk ?_)
    refine kb [] 3 [6,5,4,0,1,2] [3,2,1,0] []<|xw_seq<|reg<|ka [] 4 0 [11,10,9,6,5,4,0,1] [3,2,1,0] [tr,tr]<|pc (oput_1 W xs ys ((s + 1) * 4294967296 + p) t f m ZZ ZZ ZZ ZZ ZZ om ZZ ZZ ZZ ZZ om om) ?_
    obtain ⟨h3,h4,h5,h6,h7,h8⟩:=put_ok W xs ys ((s + 1) * 4294967296 + p) t f m ZZ ZZ ZZ ZZ om om om (by first | omega | decide) om
    refine ka [] 5 5 [6,5,4,0,1] [3,2,1,0] [tr]<|en<|an<|kB [] 5 ⟨[(6,.i 0),(5,.u ((s + 1) * 4294967296 + p)),(4,.p 3)],[(3,.cells (J5 W xs s p t f m ys b l q) 132),(2,.cells z8 132),(J4 t f m),(0,.cells (J5 W xs s p t f m ys b l q) 132)],4⟩ [tr,tr]<|xw_ret<|⟨.tup [.agg (J5 W xs s p t f m ys b l q),.u ((s + 1) * 4294967296 + p),.i 0],kr,?_⟩
    exact ka [] 6 3 [8,7,10,9,6,3,2] [2,1,0] [tr]<|en<|an<|xw_ret<|an_ret<|ib_ret<|an_ret<|ib_ret<|an_ret<|ib_ret<|an_ret<|juu_ret<|bs (.tup [.agg (J5 W xs s p t f m ys b l q),.u ((s + 1) * 4294967296 + p),.i 0]) (Or.inr <| Or.inl <| ⟨Jb2,om,om,rfl⟩)
   ·
    refine xw_skip<|an<|xw_seq<|kb [(1,.i (2 * (f + 2))),(3,.bool (decide (n<(2 * (f + 2)))))] 5 [35,10,9,8,7,6,3,2] [2,1,0] [w6 (2 * (f + 2)),sf (decide (n<(2 * (f + 2))))]<|xcD (n<(2 * (f + 2))) (fun h3=>?_) (fun h3=>?_)
    ·
     refine xw_exit<|an_exit<|an_exit<|ib_exit kr<|an_exit<|ib_same<|an<|xw_seq<|reg<|ka [] 3 0 [69,68,10,9,8,7,6,3,2] [2,1,0] [tr] ?_
     by_cases h4:(f + 2)<=l - b
     ·
      refine pc (take_1 s b l (f + 2) ZZ om ZZ)<|ka [] 8 4 [14,13,12,10,9,8,7,6,3,2] [3,2,1,0] [tr]<|en<|an<|kB [(1,.t)] 2 ⟨[(75,.t),(13,.u ((s + 1) * 4294967296 + b)),(12,.p 3),J7,(9,.i (f + 2)),(8,.i 0),(7,.u 0),(6,.p 2),(3,.p 0),(2,.i n)],[(3,.cells [.i s,.i (b + (f + 2)),.i l] 27),(2,.cells z8 132),(J4 t f m),(0,.cells (mr W xs ys (r5 s b l p q)) 132)],4⟩ [qT 0 0]<|ct<|kb [] 3 [13,10,9,8,7,6,3,2] [2,1,0] [tr,tr]<|xw_seq<|reg<|ka [] 2 0 [79,78,10,9,8,7,6,3,2] [2,1,0] []<|callx (f:=90) (args:=[.u ((s + 1) * 4294967296 + b),.p 0,.p 1]) (d:=(some 80)) kr (xcall_of TT_ok Tryz.func90 rfl (by decide) nk ?_)
      refine kb [] 3 [6,5,4,0,1,2] [4,2,1,0] []<|xw_seq<|reg<|kA [] 4 0 ⟨[(11,.agg [.i t,.i f,.u m]),(10,.u ((s + 1) * 4294967296 + b)),(9,.agg (mm W xs ys)),(6,.i 0),(5,.u 0),(4,.p 4),(0,.u ((s + 1) * 4294967296 + b)),(1,.p 0)],[(4,.cells z8 132),(2,.cells z8 132),(J4 t f m),(0,.cells (mr W xs ys (r5 s (b + (f + 2)) l p q)) 132)],5⟩ [tr,tr]<|pc (oput_1 W xs ys ((s + 1) * 4294967296 + b) t f m ZZ ZZ ZZ ZZ ZZ om ZZ ZZ ZZ ZZ om om) ?_
      obtain ⟨h5,h6,h7,h8,h9,h10⟩:=put_ok W xs ys ((s + 1) * 4294967296 + b) t f m ZZ ZZ ZZ ZZ om om om (by first | omega | decide) om
      refine ka [] 5 5 [6,5,4,0,1] [4,2,1,0] [tr]<|en<|an<|kb [] 5 [6,5,4] [4,2,1,0] [tr,tr]<|xw_ret<|⟨.tup [.agg (J6 W xs s b t f m ys l p q),.u ((s + 1) * 4294967296 + b),.i 0],kr,?_⟩
      exact kA [] 6 3 ⟨[(8,.i 0),(7,.u ((s + 1) * 4294967296 + b)),J7,(9,.i (f + 2)),(6,.p 2),(3,.p 0),(2,.i n)],[(2,.cells (J6 W xs s b t f m ys l p q) 132),(J4 t f m),(0,.cells (J6 W xs s b t f m ys l p q) 132)],5⟩ [tr]<|en<|an<|xw_ret<|ib_ret<|an_ret<|ib_ret<|an_ret<|juu_ret<|bs (.tup [.agg (J6 W xs s b t f m ys l p q),.u ((s + 1) * 4294967296 + b),.i 0]) (Or.inr <| Or.inr <| Or.inl <| ⟨Jb2,om,om,om,om,rfl⟩)
     ·
      exact pc (take_2 s b l (f + 2) ZZ om om)<|ka [] 8 4 [14,13,12,10,9,8,7,6,3,2] [3,2,1,0] [tr]<|en<|an<|kB [(1,.f)] 2 ⟨[(75,.f),(13,.u 0),(12,.p 3),J7,(9,.i (f + 2)),(8,.i 0),(7,.u 0),(6,.p 2),(3,.p 0),(2,.i n)],[(3,.cells [.i s,.i b,.i l] 27),(2,.cells z8 132),(J4 t f m),(0,.cells (mr W xs ys (r5 s b l p q)) 132)],4⟩ [qF 4 0]<|cf<|xw_skip<|ib<|an<|xw_seq<|xw_seq<|kb [(1,.i (2 * (f + 2))),(3,.f)] 4 [87,10,9,8,7,6,3,2] [2,1,0] [w6 (2 * (f + 2)),dF ((2 * (f + 2))<=n)]<|cf<|xw_skip<|an<|kb [] 4 [8,7,10,9,6,3,2] [2,1,0] [tr,tr]<|xw_ret<|an_ret<|ib_ret<|an_ret<|juu_ret<|bs (.tup [.agg (mr W xs ys (r5 s b l p q)),.u 0,.i 4]) (Or.inr <| Or.inr <| Or.inr <| Or.inl <| ⟨Jb2,om,om,om,om,rfl⟩)
    ·
     refine xw_skip<|an<|xw_seq<|reg<|ka [] 2 0 [42,10,9,8,7,6,3,2] [2,1,0] [tr]<|pc (left_1 s b l ZZ)<|ka [(4,.bool (decide ((l - b)<(f + 2))))] 3 3 [40,10,9,8,7,6,3,2] [2,1,0] [sf (decide ((l - b)<(f + 2)))]<|en<|an<|xcD ((l - b)<(f + 2)) (fun h4=>?_) (fun h4=>?_)
     ·
      refine xw_exit<|an_exit<|ib_exit kr<|an_exit<|ib_exit kr<|an_exit<|ib_same<|an<|xw_seq<|xw_seq<|kB [(1,.i (2 * (f + 2))),(3,.t)] 4 ⟨[(87,.t),J7,(9,.i (f + 2)),(8,.i 0),(7,.u 0),(6,.p 2),(3,.p 0),(2,.i n)],[(2,.cells z8 132),(J4 t f m),(0,.cells (mr W xs ys (r5 s b l p q)) 132)],3⟩ [w6 (2 * (f + 2)),dT ((2 * (f + 2))<=n)]<|ct<|reg<|ka [] 1 0 [88,10,9,8,7,6,3,2] [2,1,0] [tr]<|pc (retire W xs ys s b l p q ZZ ZZ ZZ ZZ ZZ ZZ ZZ ZZ) ?_
      obtain ⟨h5,h6,h7,h8⟩:=rt_ok W xs ys s p q ZZ ZZ ZZ ZZ om om
      exact ka [] 1 2 [10,9,8,7,6,3,2] [2,1,0] [tr]<|en<|an<|kb [] 4 [8,7,10,9,6,3,2] [2,1,0] [tr,tr]<|xw_ret<|an_ret<|ib_ret<|an_ret<|juu_ret<|bs (.tup [.agg (mr W (rtx xs s p q) (rty ys s p q) (r5 s b l 0 0)),.u 0,.i 4]) (Or.inr <| Or.inr <| Or.inr <| Or.inr <| Or.inl <| ⟨Jb2,om,om,om,om,rfl⟩)
     ·
      refine xw_skip<|an<|xw_exit<|ib_exit kr<|an_exit<|ib_exit kr<|an_exit<|ib_exit kr<|an_exit<|ib_same<|an<|xw_seq<|reg<|kA [] 1 0 ⟨[(91,.agg (mr W xs ys (r5 s b l p q))),J7,(9,.i (f + 2)),(8,.i 0),(7,.u 0),(6,.p 2),(3,.p 0),(2,.i n)],[(2,.cells z8 132),(J4 t f m),(0,.cells (mr W xs ys (r5 s b l p q)) 132)],3⟩ [tr]<|pc (retire W xs ys s b l p q ZZ ZZ ZZ ZZ ZZ ZZ ZZ ZZ) ?_
      obtain ⟨h5,h6,h7,h8⟩:=rt_ok W xs ys s p q ZZ ZZ ZZ ZZ om om
      refine ka [] 1 2 [10,9,8,7,6,3,2] [2,1,0] [tr]<|en<|an<|xw_seq<|reg<|ka [] 3 0 [96,95,10,9,8,7,6,3,2] [2,1,0] [tr] ?_
      by_cases h9:n<=l - b
      ·
       refine pc (most_1 s b l n ZZ om ZZ)<|ka [] 8 4 [17,15,10,9,8,7,6,3,2] [3,2,1,0] [tr]<|en<|an<|kB [(7,.i (b + n))] 11 ⟨[(15,.p 3),J7,(9,.i (f + 2)),(8,.i 0),(7,.u 0),(6,.p 2),(3,.p 0),(2,.i n)],[(3,.cells [.i s,.i (b + n),.i l] 27),(2,.cells z8 132),(J4 t f m),(0,.cells (mr W (rtx xs s p q) (rty ys s p q) (r5 s b l b (b + n))) 132)],4⟩ [tr,tr,w6 (b + n),tr]<|kb [] 3 [10,9,8,7,6,3,2] [2,1,0] [tr,tr]<|xw_goto<|juu<|uj_step<|xw_seq<|xw_skip<|an<|xw_seq<|xw_block<|xw_seq<|xw_block<|xw_seq<|xw_block<|xw_seq<|xw_block<|xw_seq<|xw_seq<|xw_seq<|reg ?_
       refine ka [] 2 0 [32,31,10,9,8,7,6,3,2] [2,1,0] [tr]<|pc (gap W (rtx xs s p q) (rty ys s p q) s (b + n) l b (b + n) om)<|ka [(3,.t)] 2 3 [30,10,9,8,7,6,3,2] [2,1,0] [dT ((f + 2)<=((b + n) - b))]<|en<|an<|ct<|xw_exit<|an_exit<|an_exit<|ib_same<|an<|xw_seq<|xw_seq<|reg<|kA [] 6 0 ⟨[(51,.i b),(48,.i s),J7,(9,.i (f + 2)),(8,.i 0),(7,.u 0),(6,.p 2),(3,.p 0),(2,.i n)],[(2,.cells z8 132),(J4 t f m),(0,.cells (mr W (rtx xs s p q) (rty ys s p q) (r5 s (b + n) l b (b + n))) 132)],4⟩ [tr,tr]<|pc (addr_1 s b om)<|ka [] 1 7 [11,10,9,8,7,6,3,2] [2,1,0] []<|en<|an<|kb [(4,.i (b + (f + 2)))] 8 [11,10,9,8,7,6,3,2] [2,1,0] [tr,w6 (b + (f + 2)),tr]<|xw_seq<|reg<|ka [] 2 0 [61,60,10,9,8,7,6,3,2] [2,1,0] []<|callx (f:=90) (args:=[.u ((s + 1) * 4294967296 + b),.p 0,.p 1]) (d:=(some 62)) kr (xcall_of TT_ok Tryz.func90 rfl (by decide) nk ?_)
       refine kB [] 3 ⟨[(6,.i 0),(5,.u 0),(4,.p 4),(0,.u ((s + 1) * 4294967296 + b)),(1,.p 0),(2,.p 1)],[(4,.cells z8 132),(2,.cells z8 132),(J4 t f m),(0,.cells (mr W (rtx xs s p q) (rty ys s p q) (r5 s (b + n) l (b + (f + 2)) (b + n))) 132)],5⟩ []<|xw_seq<|reg<|ka [] 4 0 [11,10,9,6,5,4,0,1] [4,2,1,0] [tr,tr]<|pc (oput_1 W (rtx xs s p q) (rty ys s p q) ((s + 1) * 4294967296 + b) t f m ZZ ZZ ZZ ZZ ZZ om ZZ ZZ ZZ ZZ om om) ?_
       obtain ⟨h10,h11,h12,h13,h14,h15⟩:=put_ok W (rtx xs s p q) (rty ys s p q) ((s + 1) * 4294967296 + b) t f m ZZ ZZ ZZ ZZ om om om (by first | omega | decide) om
       refine ka [] 5 5 [6,5,4,0,1] [4,2,1,0] [tr]<|en<|an<|kb [] 5 [6,5,4] [4,2,1,0] [tr,tr]<|xw_ret<|⟨.tup [.agg (J3 W xs s p q b t f m ys n l),.u ((s + 1) * 4294967296 + b),.i 0],kr,?_⟩
       show XOi _ _ _ _ _ _ _ ⟨[(62,.tup [.agg (J3 W xs s p q b t f m ys n l),.u ((s + 1) * 4294967296 + b),.i 0]),(61,.u ((s + 1) * 4294967296 + b)),(60,.fn 90 [] [.p 0,.p 1]),J7,(9,.i (f + 2)),(8,.i 0),(7,.u 0),(6,.p 2),(3,.p 0),(2,.i n)],[(4,.cells (J3 W xs s p q b t f m ys n l) 132),(2,.cells z8 132),(J4 t f m),(0,.cells (J3 W xs s p q b t f m ys n l) 132)],5⟩
       exact ka [] 6 3 [8,7,10,9,6,3,2] [2,1,0] [tr]<|en<|an<|xw_ret<|an_ret<|ib_ret<|an_ret<|ib_ret<|an_ret<|ib_ret<|an_ret<|juu_ret<|br (.tup [.agg (J3 W xs s p q b t f m ys n l),.u ((s + 1) * 4294967296 + b),.i 0]) (.tup (J1 W xs s p q b t f m ys n l)) (wk_s [(6,⟨((b + n):Int)=(b + (min n (l - b))),om⟩),(9,⟨((b + n):Int)=(b + (min n (l - b))),om⟩)]) (Or.inr <| Or.inr <| Or.inr <| Or.inr <| Or.inr <| ⟨Jb2,om,om,om,om,rfl⟩)
      ·
       refine pc (most_2 s b l n ZZ om om)<|ka [] 8 4 [17,15,10,9,8,7,6,3,2] [3,2,1,0] [tr]<|en<|an<|kB [(7,.i (b + (l - b)))] 11 ⟨[(15,.p 3),J7,(9,.i (f + 2)),(8,.i 0),(7,.u 0),(6,.p 2),(3,.p 0),(2,.i n)],[(3,.cells [.i s,.i l,.i l] 27),(2,.cells z8 132),(J4 t f m),(0,.cells (mr W (rtx xs s p q) (rty ys s p q) (r5 s b l b (b + (l - b)))) 132)],4⟩ [tr,tr,w6 (b + (l - b)),tr]<|kb [] 3 [10,9,8,7,6,3,2] [2,1,0] [tr,tr]<|xw_goto<|juu<|uj_step<|xw_seq<|xw_skip<|an<|xw_seq<|xw_block<|xw_seq<|xw_block<|xw_seq<|xw_block<|xw_seq<|xw_block<|xw_seq<|xw_seq<|xw_seq<|reg ?_
       refine ka [] 2 0 [32,31,10,9,8,7,6,3,2] [2,1,0] [tr]<|pc (gap W (rtx xs s p q) (rty ys s p q) s l l b (b + (l - b)) om)<|ka [(3,.t)] 2 3 [30,10,9,8,7,6,3,2] [2,1,0] [dT ((f + 2)<=((b + (l - b)) - b))]<|en<|an<|ct<|xw_exit<|an_exit<|an_exit<|ib_same<|an<|xw_seq<|xw_seq<|reg<|kA [] 6 0 ⟨[(51,.i b),(48,.i s),J7,(9,.i (f + 2)),(8,.i 0),(7,.u 0),(6,.p 2),(3,.p 0),(2,.i n)],[(2,.cells z8 132),(J4 t f m),(0,.cells (mr W (rtx xs s p q) (rty ys s p q) (r5 s l l b (b + (l - b)))) 132)],4⟩ [tr,tr]<|pc (addr_1 s b om)<|ka [] 1 7 [11,10,9,8,7,6,3,2] [2,1,0] []<|en<|an<|kb [(4,.i (b + (f + 2)))] 8 [11,10,9,8,7,6,3,2] [2,1,0] [tr,w6 (b + (f + 2)),tr]<|xw_seq<|reg<|ka [] 2 0 [61,60,10,9,8,7,6,3,2] [2,1,0] []<|callx (f:=90) (args:=[.u ((s + 1) * 4294967296 + b),.p 0,.p 1]) (d:=(some 62)) kr (xcall_of TT_ok Tryz.func90 rfl (by decide) nk ?_)
       refine kB [] 3 ⟨[(6,.i 0),(5,.u 0),(4,.p 4),(0,.u ((s + 1) * 4294967296 + b)),(1,.p 0),(2,.p 1)],[(4,.cells z8 132),(2,.cells z8 132),(J4 t f m),(0,.cells (mr W (rtx xs s p q) (rty ys s p q) (r5 s l l (b + (f + 2)) (b + (l - b)))) 132)],5⟩ []<|xw_seq<|reg<|ka [] 4 0 [11,10,9,6,5,4,0,1] [4,2,1,0] [tr,tr]<|pc (oput_1 W (rtx xs s p q) (rty ys s p q) ((s + 1) * 4294967296 + b) t f m ZZ ZZ ZZ ZZ ZZ om ZZ ZZ ZZ ZZ om om) ?_
       obtain ⟨h10,h11,h12,h13,h14,h15⟩:=put_ok W (rtx xs s p q) (rty ys s p q) ((s + 1) * 4294967296 + b) t f m ZZ ZZ ZZ ZZ om om om (by first | omega | decide) om
       refine ka [] 5 5 [6,5,4,0,1] [4,2,1,0] [tr]<|en<|an<|kb [] 5 [6,5,4] [4,2,1,0] [tr,tr]<|xw_ret<|⟨.tup [.agg (J2 W xs s p q b t f m ys l),.u ((s + 1) * 4294967296 + b),.i 0],kr,?_⟩
       show XOi _ _ _ _ _ _ _ ⟨[(62,.tup [.agg (J2 W xs s p q b t f m ys l),.u ((s + 1) * 4294967296 + b),.i 0]),(61,.u ((s + 1) * 4294967296 + b)),(60,.fn 90 [] [.p 0,.p 1]),J7,(9,.i (f + 2)),(8,.i 0),(7,.u 0),(6,.p 2),(3,.p 0),(2,.i n)],[(4,.cells (J2 W xs s p q b t f m ys l) 132),(2,.cells z8 132),(J4 t f m),(0,.cells (J2 W xs s p q b t f m ys l) 132)],5⟩
       exact ka [] 6 3 [8,7,10,9,6,3,2] [2,1,0] [tr]<|en<|an<|xw_ret<|an_ret<|ib_ret<|an_ret<|ib_ret<|an_ret<|ib_ret<|an_ret<|juu_ret<|br (.tup [.agg (J2 W xs s p q b t f m ys l),.u ((s + 1) * 4294967296 + b),.i 0]) (.tup (J1 W xs s p q b t f m ys n l)) (wk_s [(6,⟨(l:Int)=(b + (min n (l - b))),om⟩),(9,⟨((b + (l - b)):Int)=(b + (min n (l - b))),om⟩)]) (Or.inr <| Or.inr <| Or.inr <| Or.inr <| Or.inr <| ⟨Jb2,om,om,om,om,rfl⟩)
 ·
  refine pc (hright_2 t f m ZZ ZZ ZZ ZZ) ?_
  have h1:(headErr t f m)≠0:=headErr_ne om om
  exact ka [(2,.t)] 6 2 [25,8,7,6,4,3,2] [2,1,0] [nT (headErr t f m) 0,tr]<|en<|an<|ct<|kB [] 4 ⟨[(8,.i 1),(7,.u 0),(6,.p 2),(4,.p 1),(3,.p 0),(2,.i n)],[(2,.cells (mr W xs ys (r5 s b l p q)) 132),(J4 t f m),(0,.cells (mr W xs ys (r5 s b l p q)) 132)],3⟩ [tr,tr]<|xw_ret<|an_ret<|juu_ret<|bs (.tup [.agg (mr W xs ys (r5 s b l p q)),.u 0,.i 1]) (Or.inl <| ⟨Jb2,rfl⟩)
theorem bmake_2 (W:Int)(xs ys:List Int)(s b l p q n t f m:Int)(hp0:16<=W/\W<=4096)(hp1:(xs.length:Int)=W)(hp2:(ys.length:Int)=W)(hp3:U64s xs)(hp4:U64s ys)(hp5:(s=0\/s=1)/\0<=b/\b<=l/\l<=4096)(hp6:l=W)(hp7:0<=p/\p<=q/\q<=b)(hp8:I6 t)(hp9:I6 f)(hp10:U6 m)(hp11:I6 n)(hp12:(t=255/\0<=f/\f<=65535/\m=0)\/(1<=t/\t<=200/\0<=f/\f<=16/\m<2 ^ (Int.toNat f)/\m<65536))(hp13:t≠255)(hp14:f + 2<=q - p):Pub Tryz.prog 77 [.agg (mr W xs ys (r5 s b l p q)),.agg [.i t,.i f,.u m],.i n] (fun rv=>rv = .tup [.agg (J5 W xs s p t f m ys b l q),.u ((s + 1) * 4294967296 + p),.i 0]) :=
  (bmake W xs ys s b l p q n t f m hp0 hp1 hp2 hp3 hp4 hp5 hp6 hp7 hp8 hp9 hp10 hp11).mono vr
theorem bmake_3 (W:Int)(xs ys:List Int)(s b l p q n t f m:Int)(hp0:16<=W/\W<=4096)(hp1:(xs.length:Int)=W)(hp2:(ys.length:Int)=W)(hp3:U64s xs)(hp4:U64s ys)(hp5:(s=0\/s=1)/\0<=b/\b<=l/\l<=4096)(hp6:l=W)(hp7:0<=p/\p<=q/\q<=b)(hp8 : -9223372036854775808<=t/\t<=9223372036854775807)(hp9 : -9223372036854775808<=f/\f<=9223372036854775807)(hp10:0<=m/\m<=18446744073709551615)(hp11 : -9223372036854775808<=n/\n<=9223372036854775807)(hp12:(t=255/\0<=f/\f<=65535/\m=0)\/(1<=t/\t<=200/\0<=f/\f<=16/\m<2 ^ (Int.toNat f)/\m<65536))(hp13:t≠255)(hp14:q - p<f + 2)(hp15:n<2 * (f + 2))(hp16:f + 2<=l - b):Pub Tryz.prog 77 [.agg (mr W xs ys (r5 s b l p q)),.agg [.i t,.i f,.u m],.i n] (fun rv=>rv = .tup [.agg (mr W (px xs ((s + 1) * 4294967296 + b) t f m) (py ys ((s + 1) * 4294967296 + b) t f m) (r5 s (b + (f + 2)) l p q)),.u ((s + 1) * 4294967296 + b),.i 0]):=by
  refine (bmake W xs ys s b l p q n t f m hp0 hp1 hp2 hp3 hp4 hp5 hp6 hp7 hp8 hp9 hp10 hp11).mono ?_
  rintro _ (⟨g0,rfl⟩ | ⟨g0,g1,g2,rfl⟩ | ⟨g0,g1,g2,g3,g4,rfl⟩ | ⟨g0,g1,g2,g3,g4,rfl⟩ | ⟨g0,g1,g2,g3,g4,rfl⟩ | ⟨g0,g1,g2,g3,g4,rfl⟩)
  all_goals first | rfl | (exfalso; first | omega | grind)
theorem bmake_4 (W:Int)(xs ys:List Int)(s b l p q n t f m:Int)(hp0:16<=W/\W<=4096)(hp1:(xs.length:Int)=W)(hp2:(ys.length:Int)=W)(hp3:U64s xs)(hp4:U64s ys)(hp5:(s=0\/s=1)/\0<=b/\b<=l/\l<=4096)(hp6:l=W)(hp7:0<=p/\p<=q/\q<=b)(hp8 : -9223372036854775808<=t/\t<=9223372036854775807)(hp9 : -9223372036854775808<=f/\f<=9223372036854775807)(hp10:0<=m/\m<=18446744073709551615)(hp11 : -9223372036854775808<=n/\n<=9223372036854775807)(hp12:(t=255/\0<=f/\f<=65535/\m=0)\/(1<=t/\t<=200/\0<=f/\f<=16/\m<2 ^ (Int.toNat f)/\m<65536))(hp13:t≠255)(hp14:q - p<f + 2)(hp15:n<2 * (f + 2))(hp16:l - b<f + 2):Pub Tryz.prog 77 [.agg (mr W xs ys (r5 s b l p q)),.agg [.i t,.i f,.u m],.i n] (fun rv=>rv = .tup [.agg (mr W xs ys (r5 s b l p q)),.u 0,.i 4]):=by
  refine (bmake W xs ys s b l p q n t f m hp0 hp1 hp2 hp3 hp4 hp5 hp6 hp7 hp8 hp9 hp10 hp11).mono ?_
  rintro _ (⟨g0,rfl⟩ | ⟨g0,g1,g2,rfl⟩ | ⟨g0,g1,g2,g3,g4,rfl⟩ | ⟨g0,g1,g2,g3,g4,rfl⟩ | ⟨g0,g1,g2,g3,g4,rfl⟩ | ⟨g0,g1,g2,g3,g4,rfl⟩)
  all_goals first | rfl | (exfalso; first | omega | grind)
theorem bmake_5 (W:Int)(xs ys:List Int)(s b l p q n t f m:Int)(hp0:16<=W/\W<=4096)(hp1:(xs.length:Int)=W)(hp2:(ys.length:Int)=W)(hp3:U64s xs)(hp4:U64s ys)(hp5:(s=0\/s=1)/\0<=b/\b<=l/\l<=4096)(hp6:l=W)(hp7:0<=p/\p<=q/\q<=b)(hp8 : -9223372036854775808<=t/\t<=9223372036854775807)(hp9 : -9223372036854775808<=f/\f<=9223372036854775807)(hp10:0<=m/\m<=18446744073709551615)(hp11 : -9223372036854775808<=n/\n<=9223372036854775807)(hp12:(t=255/\0<=f/\f<=65535/\m=0)\/(1<=t/\t<=200/\0<=f/\f<=16/\m<2 ^ (Int.toNat f)/\m<65536))(hp13:t≠255)(hp14:q - p<f + 2)(hp15:2 * (f + 2)<=n)(hp16:l - b<f + 2):Pub Tryz.prog 77 [.agg (mr W xs ys (r5 s b l p q)),.agg [.i t,.i f,.u m],.i n] (fun rv=>rv = .tup [.agg (mr W (rtx xs s p q) (rty ys s p q) (r5 s b l 0 0)),.u 0,.i 4]):=by
  refine (bmake W xs ys s b l p q n t f m hp0 hp1 hp2 hp3 hp4 hp5 hp6 hp7 hp8 hp9 hp10 hp11).mono ?_
  rintro _ (⟨g0,rfl⟩ | ⟨g0,g1,g2,rfl⟩ | ⟨g0,g1,g2,g3,g4,rfl⟩ | ⟨g0,g1,g2,g3,g4,rfl⟩ | ⟨g0,g1,g2,g3,g4,rfl⟩ | ⟨g0,g1,g2,g3,g4,rfl⟩)
  all_goals first | rfl | (exfalso; first | omega | grind)
theorem bmake_6 (W:Int)(xs ys:List Int)(s b l p q n t f m:Int)(hp0:16<=W/\W<=4096)(hp1:(xs.length:Int)=W)(hp2:(ys.length:Int)=W)(hp3:U64s xs)(hp4:U64s ys)(hp5:(s=0\/s=1)/\0<=b/\b<=l/\l<=4096)(hp6:l=W)(hp7:0<=p/\p<=q/\q<=b)(hp8 : -9223372036854775808<=t/\t<=9223372036854775807)(hp9 : -9223372036854775808<=f/\f<=9223372036854775807)(hp10:0<=m/\m<=18446744073709551615)(hp11 : -9223372036854775808<=n/\n<=9223372036854775807)(hp12:(t=255/\0<=f/\f<=65535/\m=0)\/(1<=t/\t<=200/\0<=f/\f<=16/\m<2 ^ (Int.toNat f)/\m<65536))(hp13:t≠255)(hp14:q - p<f + 2)(hp15:2 * (f + 2)<=n)(hp16:f + 2<=l - b):Pub Tryz.prog 77 [.agg (mr W xs ys (r5 s b l p q)),.agg [.i t,.i f,.u m],.i n] (fun rv=>rv = .tup [.agg (mr W (px (rtx xs s p q) ((s + 1) * 4294967296 + b) t f m) (py (rty ys s p q) ((s + 1) * 4294967296 + b) t f m) (r5 s (b + (min n (l - b))) l (b + (f + 2)) (b + (min n (l - b))))),.u ((s + 1) * 4294967296 + b),.i 0]):=by
  refine (bmake W xs ys s b l p q n t f m hp0 hp1 hp2 hp3 hp4 hp5 hp6 hp7 hp8 hp9 hp10 hp11).mono ?_
  rintro _ (⟨g0,rfl⟩ | ⟨g0,g1,g2,rfl⟩ | ⟨g0,g1,g2,g3,g4,rfl⟩ | ⟨g0,g1,g2,g3,g4,rfl⟩ | ⟨g0,g1,g2,g3,g4,rfl⟩ | ⟨g0,g1,g2,g3,g4,rfl⟩)
  all_goals first | rfl | (exfalso; first | omega | grind)
end Go.Proofs.YtmmfpkkamgapkaaGreat.X
