/- Contracts of Go functions: what each returns,for every input that its premises name; no memory of the caller is touched. Printed by a program. -/
import Derived.Test.YtmmfpkkamgapkaaGreatXt
import Derived.Test.YtmmfpkkamgapkaaGreatXq2
namespace Go.Proofs.YtmmfpkkamgapkaaGreat.X
open Go Go.RowKit
set_option linter.unusedVariables false
abbrev A4(w:Int):List SV:=[.i (w / 72057594037927936),.i ((w / 4294967296) % 16777216),.u (w % 4294967296)]
abbrev A5(t l m:Int):Nat×Blk:=(0,.cells [.i t,.i l,.u m] 58)
abbrev A6(a:Int):List SV:=[.i (a / 4294967296 - 1),.i (a % 4294967296),.t]
abbrev A7(w:Int):List (Nat×SV):=[(1,.i (w / 72057594037927936)),(2,.i (w / 72057594037927936)),(4,.i (w / 4294967296)),(5,.i ((w / 4294967296) % 16777216)),(6,.i ((w / 4294967296) % 16777216)),(8,.i (w % 4294967296))]
abbrev A8(w:Int):Mem:=[(1,.cells (A4 w) 58),(0,.cells [.i 0,.i 0,.u 0] 58)]
abbrev A9(t l m:Int):Mem:=[(1,.cells [.bool (t == 255)] 4),(A5 t l m)]
abbrev A10(a:Int):SV:=.tup [.i ((a / 4294967296) - 1),.i (a % 4294967296),.t]
abbrev A11(a:Int):List (Nat×SV):=[(1,.i (a / 4294967296)),(2,.i ((a / 4294967296) - 1)),(4,.i (a % 4294967296)),(5,.i (a % 4294967296))]
theorem Ab4{p:Prop}(h:p:=by first | exact decide_eq_true om | exact decide_eq_false om | (simp; done) | (simp; omega) | (simp_all; done) | (simp_all; omega) | grind):p:=h
theorem Ab3{p:Prop}(h:p:=by first | omega | (simp; done) | exact pow_step om (by assumption) | exact pow_b1 om om (by assumption) | exact pow_b2 om om (by assumption)):p:=h
theorem Ab2{p:Prop}(h:p:=by have hq:=@ptr_eq m i; simp only [isPtr]; first | (symm; apply decide_eq_true; simp_all; done) | (symm; apply decide_eq_false; simp_all; done) | (symm; apply decide_eq_false; omega) | grind):p:=h
theorem Ab1{p:Prop}(h:p:=by have hz:=@shr_zero l m; simp only [headErr]; first | (simp_all; done) | (simp_all; omega) | grind):p:=h
theorem addr (s a:Int):Pub Tryz.prog 93 [.i s,.i a] (fun rv=>((0<=s/\s<=1/\0<=a/\a<=4294967295)/\rv = .u ((s + 1) * 4294967296 + a))\/((¬ (0<=s/\s<=1/\0<=a/\a<=4294967295))/\rv = .u 0)):=by
 refine pub_of TT_ok Tryz.func93 rfl (by decide) nk kr<|kb [] 1 [4,0,1] [] []<|xw_seq<|xw_seq<|reg<|ka [(1,.bool (decide (s<0)))] 3 0 [7,4,0,1] [] [sf (decide (s<0))]<|splitr 7 (x:=(decide (s<0))) kr (fun h0=>?_) (fun h0=>?_)
 ·
  replace h0:s<0:=of_decide_eq_true h0
  exact ka [] 11 3 [18,4,0,1] [] [tr,tr,tr]<|en<|an<|ct<|kB [] 1 ⟨[(4,.u 0),(0,.i s),(1,.i a)],[],0⟩ []<|xw_ret<|an_ret<|bs (.u 0) (Or.inr <| ⟨om,rfl⟩)
 ·
  replace h0:¬ (s<0):=of_decide_eq_false h0
  refine ka [(4,.bool (decide (1<s)))] 4 3 [11,4,0,1] [] [sf (decide (1<s)),tr]<|splitr 11 (x:=(decide (1<s))) kr (fun h1=>?_) (fun h1=>?_)
  ·
   replace h1:1<s:=of_decide_eq_true h1
   exact kA [] 7 7 ⟨[(18,.t),(4,.u 0),(0,.i s),(1,.i a)],[],0⟩ [tr,tr]<|en<|an<|ct<|kb [] 1 [4,0,1] [] []<|xw_ret<|an_ret<|bs (.u 0) (Or.inr <| ⟨om,rfl⟩)
  ·
   replace h1:¬ (1<s):=of_decide_eq_false h1
   refine kA [(8,.bool (decide (a<0)))] 4 7 ⟨[(15,.bool (decide (a<0))),(4,.u 0),(0,.i s),(1,.i a)],[],0⟩ [sf (decide (a<0)),tr]<|splitr 15 (x:=(decide (a<0))) kr (fun h2=>?_) (fun h2=>?_)
   ·
    replace h2:a<0:=of_decide_eq_true h2
    exact ka [] 3 11 [18,4,0,1] [] [tr]<|en<|an<|ct<|kb [] 1 [4,0,1] [] []<|xw_ret<|an_ret<|bs (.u 0) (Or.inr <| ⟨om,rfl⟩)
   ·
    replace h2:¬ (a<0):=of_decide_eq_false h2
    refine ka [(12,.bool (decide (4294967295<a)))] 3 11 [18,4,0,1] [] [sf (decide (4294967295<a)),tr]<|en<|an<|xcD (4294967295<a) (fun h3=>?_) (fun h3=>?_)
    ·
     exact kb [] 1 [4,0,1] [] []<|xw_ret<|an_ret<|bs (.u 0) (Or.inr <| ⟨om,rfl⟩)
    ·
     exact xw_skip<|an<|kb [(1,.i (s + 1)),(2,.i (s + 1)),(3,.i ((s + 1) * 4294967296)),(5,.i a),(6,.i (((s + 1) * 4294967296) + a))] 8 [4] [] [w6 (s + 1),w7 (s + 1),⟨(0:Int)<=32/\IntKind.u64.wrap ((s + 1) * 2 ^ min (32:Int).toNat IntKind.u64.bits)=((s + 1) * 4294967296),⟨om,u64_eq rfl om⟩⟩,w7 a,⟨IntKind.u64.wrap (BitVec.ofInt 64 ((s + 1) * 4294967296) ||| BitVec.ofInt 64 a).toNat=(((s + 1) * 4294967296) + a),or_eq2 (q:=(1 + s)) 32 4294967296 rfl om om om om om⟩]<|xw_ret<|br (.u (((s + 1) * 4294967296) + a)) (.u ((s + 1) * 4294967296 + a)) (wk_s [(0,⟨((((s + 1) * 4294967296) + a):Int)=((s + 1) * 4294967296 + a),om⟩)]) (Or.inl <| ⟨om,rfl⟩)
theorem addr_1 (s a:Int)(hp0:0<=s/\s<=1/\0<=a/\a<=4294967295):Pub Tryz.prog 93 [.i s,.i a] (fun rv=>rv = .u ((s + 1) * 4294967296 + a)) :=
  (addr s a).mono vr
theorem rwhere (a:Int)(hp0:U6 a):Pub Tryz.prog 21 [.u a] (fun rv=>((1<=a / 4294967296/\a / 4294967296<=2)/\rv = .tup (A6 a))\/((¬ (1<=a / 4294967296/\a / 4294967296<=2))/\rv = .tup [.i 0,.i 0,.f])):=by
 refine pub_of TT_ok Tryz.func21 rfl (by decide) nk kr<|kb [] 3 [4,3,2,0] [] []<|kb [(1,.i (a / 4294967296))] 3 [5,4,3,2,0] [] [⟨(4294967296:Int)≠0/\IntKind.u64.wrap (a.tdiv 4294967296)=(a / 4294967296),⟨om,u64_tdiv om om om⟩⟩]<|xw_seq<|xw_seq<|reg<|ka [(1,.bool ((a / 4294967296) != 1))] 3 0 [10,5,4,3,2,0] [] [sf ((a / 4294967296) != 1)]<|splitr 10 (x:=((a / 4294967296) != 1)) kr (fun h0=>?_) (fun h0=>?_)
 ·
  replace h0:(a / 4294967296)≠1:=bne_iff_ne.1 h0
  refine kA [(4,.bool ((a / 4294967296) != 2))] 3 3 ⟨[(13,.bool ((a / 4294967296) != 2)),(5,.u (a / 4294967296)),(4,.f),(3,.i 0),(2,.i 0),(0,.u a)],[],0⟩ [sf ((a / 4294967296) != 2),tr]<|en<|an<|xcN (a / 4294967296) 2 (fun h1=>?_) (fun h1=>?_)
  ·
   exact kb [] 3 [4,3,2,5,0] [] []<|xw_ret<|an_ret<|bs (.tup [.i 0,.i 0,.f]) (Or.inr <| ⟨om,rfl⟩)
  ·
   exact xw_skip<|an<|kb (A11 a) 9 [4,3,2] [] [w6 (a / 4294967296),w6 ((a / 4294967296) - 1),⟨(4294967296:Int)≠0/\a.tmod 4294967296=(a % 4294967296),⟨om,tmod_eq om⟩⟩,w6 (a % 4294967296)]<|xw_ret<|br (A10 a) (.tup (A6 a)) (wk_s [(0,⟨(((a / 4294967296) - 1):Int)=(a / 4294967296 - 1),om⟩)]) (Or.inl <| ⟨om,rfl⟩)
 ·
  replace h0:(a / 4294967296)=1:=bne_eq_false_iff_eq.1 h0
  exact kA [] 3 3 ⟨[(13,.f),(5,.u (a / 4294967296)),(4,.f),(3,.i 0),(2,.i 0),(0,.u a)],[],0⟩ [tr]<|en<|an<|cf<|xw_skip<|an<|kb (A11 a) 9 [4,3,2] [] [w6 (a / 4294967296),w6 ((a / 4294967296) - 1),⟨(4294967296:Int)≠0/\a.tmod 4294967296=(a % 4294967296),⟨om,tmod_eq om⟩⟩,w6 (a % 4294967296)]<|xw_ret<|br (A10 a) (.tup (A6 a)) (wk_s [(0,⟨(((a / 4294967296) - 1):Int)=(a / 4294967296 - 1),om⟩)]) (Or.inl <| ⟨om,rfl⟩)
theorem rwhere_1 (a:Int)(hp0:U6 a)(hp1:1<=a / 4294967296/\a / 4294967296<=2):Pub Tryz.prog 21 [.u a] (fun rv=>rv = .tup (A6 a)) :=
  (rwhere a hp0).mono vr
theorem rwhere_2 (a:Int)(hp0:U6 a)(hp1:¬ (1<=a / 4294967296/\a / 4294967296<=2)):Pub Tryz.prog 21 [.u a] (fun rv=>rv = .tup [.i 0,.i 0,.f]) :=
  (rwhere a hp0).mono vr
theorem pwhere (a:Int)(hp0:U6 a):Pub Tryz.prog 115 [.u a] (fun rv=>((1<=a / 4294967296/\a / 4294967296<=2)/\rv = .tup (A6 a))\/((¬ (1<=a / 4294967296/\a / 4294967296<=2))/\rv = .tup [.i 0,.i 0,.f])):=by
 refine pub_of TT_ok Tryz.func115 rfl (by decide) nk kr<|kb [] 3 [4,3,2,0] [] []<|kb [(1,.i (a / 4294967296)),(2,.i (a / 4294967296)),(3,.i ((a / 4294967296) - 1)),(5,.i (a % 4294967296)),(6,.i (a % 4294967296))] 10 [5,4,3,2] [0] [⟨(0:Int)<=32/\a.fdiv (2 ^ min (32:Int).toNat IntKind.u64.bits)=(a / 4294967296),⟨om,shr_eq rfl⟩⟩,w6 (a / 4294967296),w6 ((a / 4294967296) - 1),⟨IntKind.u64.wrap (BitVec.ofInt 64 a &&& BitVec.ofInt 64 4294967295).toNat=(a % 4294967296),and_eq 32 4294967296 (by decide) rfl om om om⟩,w6 (a % 4294967296),tr]<|xw_seq<|xw_seq<|reg<|ka [(2,.bool ((((a / 4294967296) - 1) == (-1)) && (((a % 4294967296) == 0) && true)))] 4 0 [17,5,4,3,2] [0] [tr,sf ((((a / 4294967296) - 1) == (-1)) && (((a % 4294967296) == 0) && true))]<|splitr 17 (x:=((((a / 4294967296) - 1) == (-1)) && (((a % 4294967296) == 0) && true))) kr (fun h0=>?_) (fun h0=>?_)
 ·
  replace h0:(((a / 4294967296) - 1)=(- 1))/\((a % 4294967296)=0):=by first | (simp; done) | simpa using h0
  exact kA [] 9 4 ⟨[(26,.t),(5,.p 0),(4,.f),(3,.i 0),(2,.i 0)],[(0,.cells [.i ((a / 4294967296) - 1),.i (a % 4294967296)] 177)],1⟩ [tr,tr]<|en<|an<|ct<|kb [] 3 [4,3,2,5] [0] []<|xw_ret<|an_ret<|bs (.tup [.i 0,.i 0,.f]) (Or.inr <| ⟨om,rfl⟩)
 ·
  replace h0:¬ ((((a / 4294967296) - 1)=(- 1))/\((a % 4294967296)=0)):=by first | (simp; done) | simpa using h0 | (simp at h0; omega)
  refine kA [(6,.bool (decide (((a / 4294967296) - 1)<0)))] 5 4 ⟨[(22,.bool (decide (((a / 4294967296) - 1)<0))),(5,.p 0),(4,.f),(3,.i 0),(2,.i 0)],[(0,.cells [.i ((a / 4294967296) - 1),.i (a % 4294967296)] 177)],1⟩ [tr,sf (decide (((a / 4294967296) - 1)<0)),tr]<|splitr 22 (x:=(decide (((a / 4294967296) - 1)<0))) kr (fun h1=>?_) (fun h1=>?_)
  ·
   replace h1:((a / 4294967296) - 1)<0:=of_decide_eq_true h1
   exact ka [] 4 9 [26,5,4,3,2] [0] [tr]<|en<|an<|ct<|kb [] 3 [4,3,2,5] [0] []<|xw_ret<|an_ret<|bs (.tup [.i 0,.i 0,.f]) (Or.inr <| ⟨om,rfl⟩)
  ·
   replace h1:¬ (((a / 4294967296) - 1)<0):=of_decide_eq_false h1
   refine ka [(11,.bool (decide (1<((a / 4294967296) - 1))))] 4 9 [26,5,4,3,2] [0] [tr,sf (decide (1<((a / 4294967296) - 1))),tr]<|en<|an<|xcD (1<((a / 4294967296) - 1)) (fun h2=>?_) (fun h2=>?_)
   ·
    exact kb [] 3 [4,3,2,5] [0] []<|xw_ret<|an_ret<|bs (.tup [.i 0,.i 0,.f]) (Or.inr <| ⟨om,rfl⟩)
   ·
    exact xw_skip<|an<|xw_seq<|dregk hmix kr<|kd [] 7 0 [tr,tr]<|qen<|an<|xw_ret<|br (A10 a) (.tup (A6 a)) (wk_s [(0,⟨(((a / 4294967296) - 1):Int)=(a / 4294967296 - 1),om⟩)]) (Or.inl <| ⟨om,rfl⟩)
theorem pwhere_1 (a:Int)(hp0:U6 a)(hp1:1<=a / 4294967296/\a / 4294967296<=2):Pub Tryz.prog 115 [.u a] (fun rv=>rv = .tup (A6 a)) :=
  (pwhere a hp0).mono vr
theorem pwhere_2 (a:Int)(hp0:U6 a)(hp1:¬ (1<=a / 4294967296/\a / 4294967296<=2)):Pub Tryz.prog 115 [.u a] (fun rv=>rv = .tup [.i 0,.i 0,.f]) :=
  (pwhere a hp0).mono vr
theorem padd (a b:Int)(hp0:I6 a)(hp1:I6 b):Pub Tryz.prog 123 [.i a,.i b] (fun rv=>((0<=a/\0<=b/\a + b<=9223372036854775807)/\rv = .tup [.i (a + b),.t])\/((¬ (0<=a/\0<=b/\a + b<=9223372036854775807))/\rv = .tup [.i 0,.f])):=by
 refine pub_of TT_ok Tryz.func123 rfl (by decide) nk kr<|kb [] 4 [5,4,3,2] [1,0] []<|kb [] 2 [6,5,4,3,2] [1,0] []<|xw_seq<|xw_block<|xw_seq<|xw_block<|xw_block<|xw_seq<|xw_seq<|xw_seq<|reg<|ka [] 1 0 [9,5,4,3,2] [1,0] []<|callx (f:=125) (args:=[.p 0,.p 1]) (d:=(some 10)) kr (xcall_of TT_ok Tryz.func125 rfl (by decide) nk ?_)
 refine kB [] 1 ⟨[(2,.f),(0,.p 0),(1,.p 1)],[(1,.cells [.i b] 3),(0,.cells [.i a] 3)],2⟩ []<|xw_seq<|reg<|ka [(1,.bool (decide (a<0)))] 3 0 [5,2,1] [1,0] [tr,sf (decide (a<0))]<|splitr 5 (x:=(decide (a<0))) kr (fun h0=>?_) (fun h0=>?_)
 ·
  replace h0:a<0:=of_decide_eq_true h0
  refine ka [] 4 3 [2] [1,0] [tr]<|en<|an<|xw_ret<|⟨.t,kr,?_⟩
  exact kA [] 1 2 ⟨[(8,.t),(5,.f),(4,.i 0),(3,.p 1),(2,.p 0)],[(1,.cells [.i b] 3),(0,.cells [.i a] 3)],2⟩ []<|en<|an<|ct<|xw_exit<|an_exit<|an_exit<|ib_same<|ib<|an<|xw_seq<|kb [] 2 [5,4,3,2] [1,0] []<|xw_ret<|an_ret<|ib_ret<|an_ret<|bs (.tup [.i 0,.f]) (Or.inr <| ⟨om,rfl⟩)
 ·
  replace h0:¬ (a<0):=of_decide_eq_false h0
  refine ka [(4,.bool (decide (b<0)))] 4 3 [2] [1,0] [tr,sf (decide (b<0)),tr]<|en<|an<|xw_ret<|⟨.bool (decide (b<0)),kr,?_⟩
  refine kA [] 1 2 ⟨[(8,.bool (decide (b<0))),(5,.f),(4,.i 0),(3,.p 1),(2,.p 0)],[(1,.cells [.i b] 3),(0,.cells [.i a] 3)],2⟩ []<|en<|an<|xcD (b<0) (fun h1=>?_) (fun h1=>?_)
  ·
   exact xw_exit<|an_exit<|an_exit<|ib_same<|ib<|an<|xw_seq<|kb [] 2 [5,4,3,2] [1,0] []<|xw_ret<|an_ret<|ib_ret<|an_ret<|bs (.tup [.i 0,.f]) (Or.inr <| ⟨om,rfl⟩)
  ·
   refine xw_skip<|an<|xw_seq<|reg<|ka [] 2 0 [13,12,5,4,3,2] [1,0] [tr,tr] ?_
   by_cases h2:(a + b)<=9223372036854775807
   ·
    exact ka [(2,.i (a + b)),(3,.f)] 3 2 [11,5,4,3,2] [1,0] [w6 (a + b),dF ((a + b)<0)]<|en<|an<|cf<|xw_skip<|an<|xw_exit<|ib_exit kr<|ib_exit kr<|an_exit<|ib_same<|an<|kb [(2,.i (a + b))] 5 [5,4] [] [tr,tr,w6 (a + b)]<|xw_ret<|bs (.tup [.i (a + b),.t]) (Or.inl <| ⟨om,rfl⟩)
   ·
    exact ka [(2,.i ((a + b) - 18446744073709551616)),(3,.t)] 3 2 [11,5,4,3,2] [1,0] [⟨IntKind.i64.wrap (a + b)=((a + b) - 18446744073709551616),i64_off om om⟩,dT (((a + b) - 18446744073709551616)<0)]<|en<|an<|ct<|xw_exit<|an_exit<|ib_exit kr<|ib_same<|an<|xw_seq<|kb [] 2 [5,4,3,2] [1,0] []<|xw_ret<|an_ret<|ib_ret<|an_ret<|bs (.tup [.i 0,.f]) (Or.inr <| ⟨om,rfl⟩)
theorem padd_1 (a b:Int)(hp0:I6 a)(hp1:I6 b)(hp2:0<=a/\0<=b/\a + b<=9223372036854775807):Pub Tryz.prog 123 [.i a,.i b] (fun rv=>rv = .tup [.i (a + b),.t]) :=
  (padd a b hp0 hp1).mono vr
theorem padd_2 (a b:Int)(hp0:I6 a)(hp1:I6 b)(hp2:¬ (0<=a/\0<=b/\a + b<=9223372036854775807)):Pub Tryz.prog 123 [.i a,.i b] (fun rv=>rv = .tup [.i 0,.f]) :=
  (padd a b hp0 hp1).mono vr
theorem fits (a n w:Int)(hp0:I6 a)(hp1:I6 n)(hp2:I6 w):Pub Tryz.prog 116 [.i a,.i n,.i w] (fun rv=>((0<=a/\0<=n/\a + n<=w)/\rv = .t)\/((¬ (0<=a/\0<=n/\a + n<=w))/\rv = .f)):=by
 refine pub_of TT_ok Tryz.func116 rfl (by decide) nk kr<|kb [] 1 [6,0,1,2] [] []<|xw_seq<|reg<|ka [] 2 0 [11,10,6,2] [] [] ?_
 by_cases h0:0<=a/\0<=n/\a + n<=9223372036854775807
 ·
  refine pc (padd_1 a n ZZ ZZ ZZ)<|ka [] 5 3 [8,7,6,2] [] []<|en<|an<|kB [(4,.bool (decide ((a + n)<=w)))] 7 ⟨[(6,.bool (decide ((a + n)<=w)))],[],0⟩ [sf (decide ((a + n)<=w)),tr]<|xw_ret ?_
  by_cases h1:(a + n)<=w
  ·
   exact br (.bool (decide ((a + n)<=w))) (.t) (wk_s [(0,⟨(decide ((a + n)<=w))=true,Ab4⟩)]) (Or.inl <| ⟨om,rfl⟩)
  ·
   exact br (.bool (decide ((a + n)<=w))) (.f) (wk_s [(0,⟨(decide ((a + n)<=w))=false,Ab4⟩)]) (Or.inr <| ⟨om,rfl⟩)
 ·
  exact pc (padd_2 a n ZZ ZZ ZZ)<|ka [] 5 3 [8,7,6,2] [] []<|en<|an<|kB [] 7 ⟨[(6,.f)],[],0⟩ [tr]<|xw_ret<|bs (.f) (Or.inr <| ⟨om,rfl⟩)
theorem fits_1 (a n w:Int)(hp0:I6 a)(hp1:I6 n)(hp2:I6 w)(hp3:0<=a/\0<=n/\a + n<=w):Pub Tryz.prog 116 [.i a,.i n,.i w] (fun rv=>rv = .t) :=
  (fits a n w hp0 hp1 hp2).mono vr
theorem fits_2 (a n w:Int)(hp0:I6 a)(hp1:I6 n)(hp2:I6 w)(hp3:¬ (0<=a/\0<=n/\a + n<=w)):Pub Tryz.prog 116 [.i a,.i n,.i w] (fun rv=>rv = .f) :=
  (fits a n w hp0 hp1 hp2).mono vr
theorem rpower (n:Int)(hp0:0<=n/\n<=63):Pub Tryz.prog 65 [.i n] (fun rv=>rv = .u (2 ^ (Int.toNat n))):=by
 refine pub_of TT_ok Tryz.func65 rfl (by decide) nk kr<|kb [] 1 [2,0] [] []<|kb [] 1 [3,2,0] [] []<|xw_seq<|kb [] 1 [4,3,2,0] [] []<|xw_block<|xw_loop (α:={q:Int×Int // (0<=q.1)/\(q.1<=n)/\(q.2=2 ^ (Int.toNat q.1))/\(1<=q.2)/\(q.2<=9223372036854775808)/\((q.1=63\/q.2 * 4<=18446744073709551616))}) (fun p=>⟨[(4,.i p.1.1),(3,.u p.1.2),(2,.u 0),(0,.i n)],[],0⟩) (fun p=>(n - p.1.1).toNat) ⟨(0,1),⟨om,om,Ab3,om,om,om⟩⟩ (le_s []) ?_
 rintro ⟨⟨i,v⟩,h0,h1,h2,h3,h4,h5⟩
 try dsimp only at h0 h1 h2 h3 h4 h5
 show XW _ _ _ _ _ _ ⟨[(4,.int .i64 i),(3,.int .u64 v),(2,.int .u64 0),(0,.int .i64 n)],[],0⟩
 refine xw_seq<|kb [(2,.bool (decide (i<n)))] 3 [7,4,3,2,0] [] [sf (decide (i<n))]<|xcD (i<n) (fun h6=>?_) (fun h6=>?_)
 ·
  exact xw_skip<|an<|xw_seq<|xw_block<|kc [(2,.i (v + v))] 4 [3,4,2,0] [] [w7 (v + v)]<|ib<|an<|kc [(1,.i (i + 1))] 3 [4,3,2,0] [] [w6 (i + 1)]<|ag ⟨((i + 1),(v + v)),⟨om,om,Ab3,om,om,Ab3⟩⟩ (le_s []) dm
 ·
  exact xw_exit<|an_exit<|ag_exit<|ib_same<|an<|kb [] 2 [2] [] []<|xw_ret<|br (.u v) (.u (2 ^ (Int.toNat n))) (wk_s [(0,⟨(v:Int)=(2 ^ (Int.toNat n)),(by first | omega | (subst_vars; congr 2; omega) | grind)⟩)]) rfl
set_option maxHeartbeats 8000000 in
theorem hright_e (t l m:Int)(hp0:I6 t)(hp1:I6 l)(hp2:U6 m):Pub Tryz.prog 76 [.agg [.i t,.i l,.u m]] (fun rv=>rv = .i (headErr t l m)):=by
 refine pub_of TT_ok Tryz.func76 rfl (by decide) nk kr<|kb [] 2 [2,1] [0] []<|kb [(2,.bool (t == 255))] 5 [3,2,1] [1,0] [tr,sf (t == 255),tr]<|kb [] 2 [4,3,2,1] [1,0] []<|kB [] 3 ⟨[(5,.i l),(4,.fn 88 [] [.p 1]),(3,.p 1),(2,.i 0),(1,.p 0)],(A9 t l m),2⟩ [tr]<|kb [] 1 [6,5,4,3,2,1] [1,0] []<|xw_seq<|xw_block<|xw_seq<|xw_block<|xw_seq<|xw_block<|xw_seq<|xw_block<|xw_seq<|xw_block<|xw_seq<|xw_seq<|xw_seq<|reg<|ka [] 3 0 [16,6,5,4,3,2,1] [1,0] [tr]<|splitr 16 (x:=(!(t == 255))) kr (fun h0=>?_) (fun h0=>?_)
 ·
  replace h0:t≠255:=by first | (simp; done) | simpa using h0 | (simp at h0; omega)
  refine ka [(5,.bool (decide (t<1)))] 4 3 [20,16,6,5,4,3,2,1] [1,0] [tr,sf (decide (t<1))]<|splitr 20 (x:=(decide (t<1))) kr (fun h1=>?_) (fun h1=>?_)
  ·
   replace h1:t<1:=of_decide_eq_true h1
   exact kA [] 11 7 ⟨[(13,.t),(6,.i 0),(5,.i l),(4,.fn 88 [] [.p 1]),(3,.p 1),(2,.i 0),(1,.p 0)],(A9 t l m),2⟩ [tr,tr,tr]<|en<|an<|ct<|xw_exit<|an_exit<|an_exit<|ib_same<|an<|xw_seq<|kb [] 1 [2,6,5,1] [0] []<|xw_ret<|an_ret<|ib_ret<|an_ret<|ib_ret<|an_ret<|ib_ret<|an_ret<|ib_ret<|an_ret<|br (.i 1) (.i (headErr t l m)) (wk_s [(0,⟨(1:Int)=(headErr t l m),Ab1⟩)]) rfl
  ·
   replace h1:¬ (t<1):=of_decide_eq_false h1
   refine kA [(9,.bool (decide (200<t)))] 6 7 ⟨[(26,.bool (decide (200<t))),(6,.i 0),(5,.i l),(4,.fn 88 [] [.p 1]),(3,.p 1),(2,.i 0),(1,.p 0)],(A9 t l m),2⟩ [tr,sf (decide (200<t)),tr,tr]<|splitr 26 (x:=(decide (200<t))) kr (fun h2=>?_) (fun h2=>?_)
   ·
    replace h2:200<t:=of_decide_eq_true h2
    exact ka [] 5 13 [13,6,5,4,3,2,1] [1,0] [tr]<|en<|an<|ct<|xw_exit<|an_exit<|an_exit<|ib_same<|an<|xw_seq<|kb [] 1 [2,6,5,1] [0] []<|xw_ret<|an_ret<|ib_ret<|an_ret<|ib_ret<|an_ret<|ib_ret<|an_ret<|ib_ret<|an_ret<|br (.i 1) (.i (headErr t l m)) (wk_s [(0,⟨(1:Int)=(headErr t l m),Ab1⟩)]) rfl
   ·
    replace h2:¬ (200<t):=of_decide_eq_false h2
    refine ka [(15,.bool (decide (l<0)))] 5 13 [13,6,5,4,3,2,1] [1,0] [tr,sf (decide (l<0)),tr]<|en<|an<|xcD (l<0) (fun h3=>?_) (fun h3=>?_)
    ·
     exact xw_exit<|an_exit<|an_exit<|ib_same<|an<|xw_seq<|kb [] 1 [2,6,5,1] [0] []<|xw_ret<|an_ret<|ib_ret<|an_ret<|ib_ret<|an_ret<|ib_ret<|an_ret<|ib_ret<|an_ret<|br (.i 1) (.i (headErr t l m)) (wk_s [(0,⟨(1:Int)=(headErr t l m),Ab1⟩)]) rfl
    ·
     refine xw_skip<|an<|xw_seq<|xw_seq<|dregk hmix kr<|kd [] 3 0 [tr]<|qinl (f:=88) (args:=[.p 1]) (d:=(some 35)) (sv:=.i 16) kr (xcall_of TT_ok Tryz.func88 rfl (by decide) nk ?_) ?_
     ·
      refine kb [] 1 [1,0] [1,0] []<|xw_seq<|kB [] 1 ⟨[(2,.bool (t == 255)),(1,.i 0)],(A9 t l m),2⟩ [tr]<|xcE t 255 (fun h4=>?_) (fun h4=>?_)
      ·
       exfalso; first | omega | (simp_all; done) | (simp_all; omega) | grind
      ·
       exact xw_skip<|an<|kb [] 1 [1] [1,0] []<|xw_ret<|⟨.i 16,kr,rfl,rfl,rfl⟩
     ·
      refine kd [(4,.bool (decide (16<l)))] 2 4 [sf (decide (16<l))]<|qen<|an<|xcD (16<l) (fun h4=>?_) (fun h4=>?_)
      ·
       exact xw_exit<|an_exit<|an_exit<|ib_exit kr<|an_exit<|ib_same<|an<|xw_seq<|kB [] 1 ⟨[(2,.i 3),(6,.i 0),(5,.i l),(1,.p 0)],[(A5 t l m)],2⟩ []<|xw_ret<|an_ret<|ib_ret<|an_ret<|ib_ret<|an_ret<|ib_ret<|an_ret<|br (.i 3) (.i (headErr t l m)) (wk_s [(0,⟨(3:Int)=(headErr t l m),Ab1⟩)]) rfl
      ·
       refine xw_skip<|an<|kB [] 2 ⟨[(37,.bool (t == 255)),(6,.i 0),(5,.i l),(2,.i 0),(1,.p 0)],[(A5 t l m)],2⟩ [tr]<|xcE t 255 (fun h5=>?_) (fun h5=>?_)
       ·
        exfalso; first | omega | (simp_all; done) | (simp_all; omega) | grind
       ·
        refine xw_skip<|an<|xw_exit<|ib_exit kr<|an_exit<|ib_exit kr<|an_exit<|ib_exit kr<|an_exit<|ib_same<|an<|xw_seq<|xw_seq<|reg<|ka [(3,.i (m.fdiv (2 ^ min (l:Int).toNat IntKind.u64.bits)))] 4 0 [42,6,2] [] [tr,⟨(0:Int)<=l/\(m.fdiv (2 ^ min (l:Int).toNat IntKind.u64.bits))=(m.fdiv (2 ^ min (l:Int).toNat IntKind.u64.bits)),⟨om,rfl⟩⟩] ?_
        have h6:0<=(m.fdiv (2 ^ min (l:Int).toNat IntKind.u64.bits))/\(m.fdiv (2 ^ min (l:Int).toNat IntKind.u64.bits))<=m:=shr_le om
        refine ka [(4,.bool ((m.fdiv (2 ^ min (l:Int).toNat IntKind.u64.bits)) != 0))] 1 4 [43,6,2] [] [sf ((m.fdiv (2 ^ min (l:Int).toNat IntKind.u64.bits)) != 0)]<|en<|an<|xcN (m.fdiv (2 ^ min (l:Int).toNat IntKind.u64.bits)) 0 (fun h7=>?_) (fun h7=>?_)
        ·
         exact kc [] 1 [6,2] [] []<|an<|xw_exit<|ib_same<|an<|kB [] 2 ⟨[(2,.i 8)],[],2⟩ []<|xw_ret<|br (.i 8) (.i (headErr t l m)) (wk_s [(0,⟨(8:Int)=(headErr t l m),Ab1⟩)]) rfl
        ·
         exact xw_skip<|an<|xw_exit<|ib_same<|an<|kb [] 2 [2] [] []<|xw_ret<|br (.i 0) (.i (headErr t l m)) (wk_s [(0,⟨(0:Int)=(headErr t l m),Ab1⟩)]) rfl
 ·
  replace h0:t=255:=by first | (simp; done) | simpa using h0
  refine ka [(15,.bool (decide (l<0)))] 15 3 [13,6,5,4,3,2,1] [1,0] [tr,tr,sf (decide (l<0)),tr]<|en<|an<|xcD (l<0) (fun h1=>?_) (fun h1=>?_)
  ·
   exact xw_exit<|an_exit<|an_exit<|ib_same<|an<|xw_seq<|kB [] 1 ⟨[(2,.i 1),(6,.i 0),(5,.i l),(1,.p 0)],[(A5 t l m)],2⟩ []<|xw_ret<|an_ret<|ib_ret<|an_ret<|ib_ret<|an_ret<|ib_ret<|an_ret<|ib_ret<|an_ret<|br (.i 1) (.i (headErr t l m)) (wk_s [(0,⟨(1:Int)=(headErr t l m),Ab1⟩)]) rfl
  ·
   refine xw_skip<|an<|xw_seq<|xw_seq<|dregk hmix kr<|kd [] 3 0 [tr]<|qinl (f:=88) (args:=[.p 1]) (d:=(some 35)) (sv:=.i 65535) kr (xcall_of TT_ok Tryz.func88 rfl (by decide) nk ?_) ?_
   ·
    refine kB [] 1 ⟨[(1,.i 0),(0,.p 1)],(A9 t l m),2⟩ []<|xw_seq<|kb [] 1 [2,1] [1,0] [tr]<|xcE t 255 (fun h2=>?_) (fun h2=>?_)
    ·
     exact kb [] 1 [1] [1,0] []<|xw_ret<|an_ret<|⟨.i 65535,kr,rfl,rfl,rfl⟩
    ·
     exfalso; first | omega | (simp_all; done) | (simp_all; omega) | grind
   ·
    refine kd [(4,.bool (decide (65535<l)))] 2 4 [sf (decide (65535<l))]<|qen<|an<|xcD (65535<l) (fun h2=>?_) (fun h2=>?_)
    ·
     exact xw_exit<|an_exit<|an_exit<|ib_exit kr<|an_exit<|ib_same<|an<|xw_seq<|kB [] 1 ⟨[(2,.i 3),(6,.i 0),(5,.i l),(1,.p 0)],[(A5 t l m)],2⟩ []<|xw_ret<|an_ret<|ib_ret<|an_ret<|ib_ret<|an_ret<|ib_ret<|an_ret<|br (.i 3) (.i (headErr t l m)) (wk_s [(0,⟨(3:Int)=(headErr t l m),Ab1⟩)]) rfl
    ·
     refine xw_skip<|an<|kB [] 2 ⟨[(37,.bool (t == 255)),(6,.i 0),(5,.i l),(2,.i 0),(1,.p 0)],[(A5 t l m)],2⟩ [tr]<|xcE t 255 (fun h3=>?_) (fun h3=>?_)
     ·
      refine xw_exit<|an_exit<|ib_exit kr<|an_exit<|ib_exit kr<|an_exit<|ib_same<|an<|kc [] 1 [5,6,2,1] [0] []<|ib<|an<|xw_seq<|kb [(3,.i (m / 1)),(4,.bool ((m / 1) != 0))] 5 [43,6,2] [] [tr,⟨(0:Int)<=0/\m.fdiv (2 ^ min (0:Int).toNat IntKind.u64.bits)=(m / 1),⟨om,shr_eq rfl⟩⟩,sf ((m / 1) != 0)]<|xcN (m / 1) 0 (fun h4=>?_) (fun h4=>?_)
      ·
       exact kc [] 1 [6,2] [] []<|an<|xw_exit<|ib_same<|an<|kB [] 2 ⟨[(2,.i 8)],[],2⟩ []<|xw_ret<|br (.i 8) (.i (headErr t l m)) (wk_s [(0,⟨(8:Int)=(headErr t l m),Ab1⟩)]) rfl
      ·
       exact xw_skip<|an<|xw_exit<|ib_same<|an<|kb [] 2 [2] [] []<|xw_ret<|br (.i 0) (.i (headErr t l m)) (wk_s [(0,⟨(0:Int)=(headErr t l m),Ab1⟩)]) rfl
     ·
      exfalso; first | omega | (simp_all; done) | (simp_all; omega) | grind
theorem hright (t l m:Int)(hp0:I6 t)(hp1:I6 l)(hp2:U6 m):Pub Tryz.prog 76 [.agg [.i t,.i l,.u m]] (fun rv=>(((t=255/\0<=l/\l<=65535/\m=0)\/(1<=t/\t<=200/\0<=l/\l<=16/\m<2 ^ (Int.toNat l)/\m<65536))/\rv = .i 0)\/((¬ ((t=255/\0<=l/\l<=65535/\m=0)\/(1<=t/\t<=200/\0<=l/\l<=16/\m<2 ^ (Int.toNat l)/\m<65536)))/\rv = .i (headErr t l m))) :=
  (hright_e t l m hp0 hp1 hp2).mono fun rv h=>by
    rcases headErr_cases t l m hp2.1 with ⟨h1,h2⟩ | ⟨h1,h2⟩
    · exact .inl ⟨h1,by rw [h,h2]⟩
    · exact .inr ⟨h1,h⟩
theorem hright_1 (t l m:Int)(hp0:I6 t)(hp1:I6 l)(hp2:U6 m)(hp3:(t=255/\0<=l/\l<=65535/\m=0)\/(1<=t/\t<=200/\0<=l/\l<=16/\m<2 ^ (Int.toNat l)/\m<65536)):Pub Tryz.prog 76 [.agg [.i t,.i l,.u m]] (fun rv=>rv = .i 0) :=
  (hright t l m hp0 hp1 hp2).mono vr
theorem hright_2 (t l m:Int)(hp0:I6 t)(hp1:I6 l)(hp2:U6 m)(hp3:¬ ((t=255/\0<=l/\l<=65535/\m=0)\/(1<=t/\t<=200/\0<=l/\l<=16/\m<2 ^ (Int.toNat l)/\m<65536))):Pub Tryz.prog 76 [.agg [.i t,.i l,.u m]] (fun rv=>rv = .i (headErr t l m)) :=
  (hright t l m hp0 hp1 hp2).mono vr
set_option maxHeartbeats 8000000 in
theorem rhright_e (t l m:Int)(hp0:I6 t)(hp1:I6 l)(hp2:U6 m):Pub Tryz.prog 30 [.agg [.i t,.i l,.u m]] (fun rv=>rv = .i (headErr t l m)):=by
 refine pub_of TT_ok Tryz.func30 rfl (by decide) nk kr<|kb [] 2 [2,1] [0] []<|xw_seq<|xw_seq<|reg<|ka [(2,.bool (t != 255))] 4 0 [6,2,1] [0] [tr,sf (t != 255)]<|splitr 6 (x:=(t != 255)) kr (fun h0=>?_) (fun h0=>?_)
 ·
  replace h0:t≠255:=bne_iff_ne.1 h0
  refine ka [(6,.bool (decide (t<1)))] 4 4 [10,6,2,1] [0] [tr,sf (decide (t<1))]<|splitr 10 (x:=(decide (t<1))) kr (fun h1=>?_) (fun h1=>?_)
  ·
   replace h1:t<1:=of_decide_eq_true h1
   exact kA [] 10 8 ⟨[(20,.t),(2,.i 0),(1,.p 0)],[(A5 t l m)],1⟩ [tr,tr,tr]<|en<|an<|ct<|kb [] 1 [2,1] [0] []<|xw_ret<|an_ret<|br (.i 1) (.i (headErr t l m)) (wk_s [(0,⟨(1:Int)=(headErr t l m),Ab1⟩)]) rfl
  ·
   replace h1:¬ (t<1):=of_decide_eq_false h1
   refine kA [(10,.bool (decide (200<t)))] 6 8 ⟨[(16,.bool (decide (200<t))),(2,.i 0),(1,.p 0)],[(A5 t l m)],1⟩ [tr,sf (decide (200<t)),tr,tr]<|splitr 16 (x:=(decide (200<t))) kr (fun h2=>?_) (fun h2=>?_)
   ·
    replace h2:200<t:=of_decide_eq_true h2
    exact ka [] 4 14 [20,2,1] [0] [tr]<|en<|an<|ct<|kb [] 1 [2,1] [0] []<|xw_ret<|an_ret<|br (.i 1) (.i (headErr t l m)) (wk_s [(0,⟨(1:Int)=(headErr t l m),Ab1⟩)]) rfl
   ·
    replace h2:¬ (200<t):=of_decide_eq_false h2
    refine ka [(16,.bool (decide (l<0)))] 4 14 [20,2,1] [0] [tr,sf (decide (l<0)),tr]<|en<|an<|xcD (l<0) (fun h3=>?_) (fun h3=>?_)
    ·
     exact kb [] 1 [2,1] [0] []<|xw_ret<|an_ret<|br (.i 1) (.i (headErr t l m)) (wk_s [(0,⟨(1:Int)=(headErr t l m),Ab1⟩)]) rfl
    ·
     refine xw_skip<|an<|xw_seq<|kb [(2,.f)] 3 [23,2,1] [0] [tr,qF t 255]<|cf<|xw_skip<|an<|xw_seq<|kb [(2,.bool (decide (16<l)))] 3 [32,2,1] [0] [tr,sf (decide (16<l))]<|xcD (16<l) (fun h4=>?_) (fun h4=>?_)
     ·
      exact kB [] 1 ⟨[(2,.i 3),(1,.p 0)],[(A5 t l m)],1⟩ []<|xw_ret<|an_ret<|br (.i 3) (.i (headErr t l m)) (wk_s [(0,⟨(3:Int)=(headErr t l m),Ab1⟩)]) rfl
     ·
      refine xw_skip<|an<|xw_seq<|xw_seq<|dregk hmix kr<|kd [] 4 0 [tr,tr]<|qc (rpower l om) ?_
      have h5:(1:Int)<=(2 ^ (Int.toNat l)):=one_le_pow _
      refine kd [(5,.bool (decide ((2 ^ (Int.toNat l))<=m)))] 1 5 [sf (decide ((2 ^ (Int.toNat l))<=m))]<|qen<|an<|xcD ((2 ^ (Int.toNat l))<=m) (fun h6=>?_) (fun h6=>?_)
      ·
       exact kB [] 1 ⟨[(2,.i 8)],[],1⟩ []<|xw_ret<|an_ret<|br (.i 8) (.i (headErr t l m)) (wk_s [(0,⟨(8:Int)=(headErr t l m),Ab1⟩)]) rfl
      ·
       exact xw_skip<|an<|kB [] 1 ⟨[(2,.i 0)],[],1⟩ []<|xw_ret<|br (.i 0) (.i (headErr t l m)) (wk_s [(0,⟨(0:Int)=(headErr t l m),Ab1⟩)]) rfl
 ·
  replace h0:t=255:=bne_eq_false_iff_eq.1 h0
  refine ka [(16,.bool (decide (l<0)))] 14 4 [20,2,1] [0] [tr,tr,sf (decide (l<0)),tr]<|en<|an<|xcD (l<0) (fun h1=>?_) (fun h1=>?_)
  ·
   exact kB [] 1 ⟨[(2,.i 1),(1,.p 0)],[(A5 t l m)],1⟩ []<|xw_ret<|an_ret<|br (.i 1) (.i (headErr t l m)) (wk_s [(0,⟨(1:Int)=(headErr t l m),Ab1⟩)]) rfl
  ·
   refine xw_skip<|an<|xw_seq<|kB [(2,.t)] 3 ⟨[(23,.t),(2,.i 0),(1,.p 0)],[(A5 t l m)],1⟩ [tr,qT t 255]<|ct<|xw_seq<|kb [(2,.bool (decide (65535<l)))] 3 [26,2,1] [0] [tr,sf (decide (65535<l))]<|xcD (65535<l) (fun h2=>?_) (fun h2=>?_)
   ·
    exact kb [] 1 [2,1] [0] []<|xw_ret<|an_ret<|an_ret<|br (.i 3) (.i (headErr t l m)) (wk_s [(0,⟨(3:Int)=(headErr t l m),Ab1⟩)]) rfl
   ·
    refine xw_skip<|an<|xw_seq<|kb [(2,.bool (m != 0))] 3 [29,2,1] [0] [tr,sf (m != 0)]<|xcN m 0 (fun h3=>?_) (fun h3=>?_)
    ·
     exact kb [] 1 [2,1] [0] []<|xw_ret<|an_ret<|an_ret<|br (.i 8) (.i (headErr t l m)) (wk_s [(0,⟨(8:Int)=(headErr t l m),Ab1⟩)]) rfl
    ·
     exact xw_skip<|an<|kb [] 1 [2,1] [0] []<|xw_ret<|an_ret<|br (.i 0) (.i (headErr t l m)) (wk_s [(0,⟨(0:Int)=(headErr t l m),Ab1⟩)]) rfl
theorem rhright (t l m:Int)(hp0:I6 t)(hp1:I6 l)(hp2:U6 m):Pub Tryz.prog 30 [.agg [.i t,.i l,.u m]] (fun rv=>(((t=255/\0<=l/\l<=65535/\m=0)\/(1<=t/\t<=200/\0<=l/\l<=16/\m<2 ^ (Int.toNat l)/\m<65536))/\rv = .i 0)\/((¬ ((t=255/\0<=l/\l<=65535/\m=0)\/(1<=t/\t<=200/\0<=l/\l<=16/\m<2 ^ (Int.toNat l)/\m<65536)))/\rv = .i (headErr t l m))) :=
  (rhright_e t l m hp0 hp1 hp2).mono fun rv h=>by
    rcases headErr_cases t l m hp2.1 with ⟨h1,h2⟩ | ⟨h1,h2⟩
    · exact .inl ⟨h1,by rw [h,h2]⟩
    · exact .inr ⟨h1,h⟩
theorem rhright_1 (t l m:Int)(hp0:I6 t)(hp1:I6 l)(hp2:U6 m)(hp3:(t=255/\0<=l/\l<=65535/\m=0)\/(1<=t/\t<=200/\0<=l/\l<=16/\m<2 ^ (Int.toNat l)/\m<65536)):Pub Tryz.prog 30 [.agg [.i t,.i l,.u m]] (fun rv=>rv = .i 0) :=
  (rhright t l m hp0 hp1 hp2).mono vr
theorem rhright_2 (t l m:Int)(hp0:I6 t)(hp1:I6 l)(hp2:U6 m)(hp3:¬ ((t=255/\0<=l/\l<=65535/\m=0)\/(1<=t/\t<=200/\0<=l/\l<=16/\m<2 ^ (Int.toNat l)/\m<65536))):Pub Tryz.prog 30 [.agg [.i t,.i l,.u m]] (fun rv=>rv = .i (headErr t l m)) :=
  (rhright t l m hp0 hp1 hp2).mono vr
theorem pobject (l:Int)(hp0:I6 l):Pub Tryz.prog 108 [.i l] (fun rv=>((l<0)/\rv = .tup [.i 0,.i 1])\/((16<l)/\rv = .tup [.i 0,.i 3])\/((0<=l)/\(l<=16)/\rv = .tup [.i (l + 2),.i 0])):=by
 refine pub_of TT_ok Tryz.func108 rfl (by decide) nk kr<|kb [] 2 [3,2,0] [] []<|xw_seq<|xw_block<|kb [(1,.bool (decide (l<0)))] 3 [4,3,2,0] [] [sf (decide (l<0))]<|xcD (l<0) (fun h0=>?_) (fun h0=>?_)
 ·
  exact kb [] 2 [3,2,0] [] []<|xw_ret<|ib_ret<|an_ret<|bs (.tup [.i 0,.i 1]) (Or.inl <| ⟨om,rfl⟩)
 ·
  refine kb [(1,.bool (decide (16<l)))] 3 [7,3,2,0] [] [sf (decide (16<l))]<|xcD (16<l) (fun h1=>?_) (fun h1=>?_)
  ·
   exact kB [] 2 ⟨[(3,.i 3),(2,.i 0),(0,.i l)],[],0⟩ []<|xw_ret<|ib_ret<|an_ret<|bs (.tup [.i 0,.i 3]) (Or.inr <| Or.inl <| ⟨om,rfl⟩)
  ·
   exact xw_skip<|ib<|an<|kB [(1,.i (l + 2))] 4 ⟨[(3,.i 0),(2,.i (l + 2))],[],0⟩ [w6 (l + 2)]<|xw_ret<|bs (.tup [.i (l + 2),.i 0]) (Or.inr <| Or.inr <| ⟨om,om,rfl⟩)
theorem pobject_3 (l:Int)(hp0:I6 l)(hp1:0<=l)(hp2:l<=16):Pub Tryz.prog 108 [.i l] (fun rv=>rv = .tup [.i (l + 2),.i 0]) :=
  (pobject l hp0).mono vr
theorem hwords (t l m:Int)(hp0:I6 t)(hp1:I6 l)(hp2:U6 m)(hp3:0<=l/\l<=65535/\(t=255\/l<=16)):Pub Tryz.prog 89 [.agg [.i t,.i l,.u m]] (fun rv=>((t=255)/\rv = .i (l + 1))\/((¬ (t=255))/\rv = .i (l + 2))):=by
 refine pub_of TT_ok Tryz.func89 rfl (by decide) nk kr<|kb [] 2 [2,1] [0] []<|xw_seq<|kb [(2,.bool (t == 255))] 3 [7,2,1] [0] [tr,sf (t == 255)]<|xcE t 255 (fun h0=>?_) (fun h0=>?_)
 ·
  exact kb [(2,.i (l + 1))] 4 [2,1] [0] [tr,w6 (l + 1)]<|xw_ret<|an_ret<|bs (.i (l + 1)) (Or.inl <| ⟨om,rfl⟩)
 ·
  exact xw_skip<|an<|xw_seq<|reg<|ka [] 2 0 [13,2] [] [tr]<|pc (pobject_3 l ZZ om om)<|kA [] 5 3 ⟨[(3,.i (l + 2)),(2,.i 0)],[],1⟩ []<|en<|an<|kb [] 2 [2] [] []<|xw_ret<|bs (.i (l + 2)) (Or.inr <| ⟨om,rfl⟩)
theorem hwords_1 (t l m:Int)(hp0:I6 t)(hp1:I6 l)(hp2:U6 m)(hp3:0<=l/\l<=65535/\(t=255\/l<=16))(hp4:t=255):Pub Tryz.prog 89 [.agg [.i t,.i l,.u m]] (fun rv=>rv = .i (l + 1)) :=
  (hwords t l m hp0 hp1 hp2 hp3).mono vr
theorem hwords_2 (t l m:Int)(hp0:I6 t)(hp1:I6 l)(hp2:U6 m)(hp3:0<=l/\l<=65535/\(t=255\/l<=16))(hp4:¬ (t=255)):Pub Tryz.prog 89 [.agg [.i t,.i l,.u m]] (fun rv=>rv = .i (l + 2)) :=
  (hwords t l m hp0 hp1 hp2 hp3).mono vr
theorem rhwords (t l m:Int)(hp0:I6 t)(hp1:I6 l)(hp2:U6 m)(hp3:0<=l/\l<=65535/\(t=255\/l<=16)):Pub Tryz.prog 22 [.agg [.i t,.i l,.u m]] (fun rv=>((t=255)/\rv = .i (l + 1))\/((¬ (t=255))/\rv = .i (l + 2))):=by
 refine pub_of TT_ok Tryz.func22 rfl (by decide) nk kr<|kb [] 2 [2,1] [0] []<|xw_seq<|kb [(2,.bool (t == 255))] 3 [5,2,1] [0] [tr,sf (t == 255)]<|xcE t 255 (fun h0=>?_) (fun h0=>?_)
 ·
  exact kb [(2,.i (1 + l))] 4 [2,1] [0] [tr,w6 (1 + l)]<|xw_ret<|an_ret<|br (.i (1 + l)) (.i (l + 1)) (wk_s [(0,⟨((1 + l):Int)=(l + 1),om⟩)]) (Or.inl <| ⟨om,rfl⟩)
 ·
  exact xw_skip<|an<|kb [(2,.i (2 + l))] 4 [2] [] [tr,w6 (2 + l)]<|xw_ret<|br (.i (2 + l)) (.i (l + 2)) (wk_s [(0,⟨((2 + l):Int)=(l + 2),om⟩)]) (Or.inr <| ⟨om,rfl⟩)
theorem rhwords_1 (t l m:Int)(hp0:I6 t)(hp1:I6 l)(hp2:U6 m)(hp3:0<=l/\l<=65535/\(t=255\/l<=16))(hp4:t=255):Pub Tryz.prog 22 [.agg [.i t,.i l,.u m]] (fun rv=>rv = .i (l + 1)) :=
  (rhwords t l m hp0 hp1 hp2 hp3).mono vr
theorem rhwords_2 (t l m:Int)(hp0:I6 t)(hp1:I6 l)(hp2:U6 m)(hp3:0<=l/\l<=65535/\(t=255\/l<=16))(hp4:¬ (t=255)):Pub Tryz.prog 22 [.agg [.i t,.i l,.u m]] (fun rv=>rv = .i (l + 2)) :=
  (rhwords t l m hp0 hp1 hp2 hp3).mono vr
theorem hword (t l m:Int)(hp0:I6 t)(hp1:I6 l)(hp2:U6 m):Pub Tryz.prog 109 [.agg [.i t,.i l,.u m]] (fun rv=>(((t=255/\0<=l/\l<=65535/\m=0)\/(1<=t/\t<=200/\0<=l/\l<=16/\m<2 ^ (Int.toNat l)/\m<65536))/\rv = .tup [.u (t * 72057594037927936 + l * 4294967296 + m),.i 0])\/((¬ ((t=255/\0<=l/\l<=65535/\m=0)\/(1<=t/\t<=200/\0<=l/\l<=16/\m<2 ^ (Int.toNat l)/\m<65536)))/\rv = .tup [.u 0,.i (headErr t l m)])):=by
 refine pub_of TT_ok Tryz.func109 rfl (by decide) nk kr<|kb [] 3 [3,2,1] [0] []<|xw_seq<|xw_seq<|reg<|ka [] 1 0 [5,3,2,1] [0] [tr] ?_
 by_cases h0:(t=255/\0<=l/\l<=65535/\m=0)\/(1<=t/\t<=200/\0<=l/\l<=16/\m<2 ^ (Int.toNat l)/\m<65536)
 ·
  exact pc (hright_1 t l m ZZ ZZ ZZ ZZ)<|ka [] 1 2 [4,3,2,1] [0] []<|en<|an<|kB [(1,.f)] 2 ⟨[(8,.f),(4,.i 0),(3,.i 0),(2,.u 0),(1,.p 0)],[(A5 t l m)],1⟩ [nF 0 0]<|cf<|xw_skip<|an<|kb [(2,.i t),(3,.i (t * 72057594037927936)),(6,.i l),(7,.i (l * 4294967296)),(8,.i ((t * 72057594037927936) + (l * 4294967296))),(11,.i (((t * 72057594037927936) + (l * 4294967296)) + m))] 14 [3,2] [] [tr,w7 t,⟨(0:Int)<=56/\IntKind.u64.wrap (t * 2 ^ min (56:Int).toNat IntKind.u64.bits)=(t * 72057594037927936),⟨om,u64_eq rfl om⟩⟩,tr,w7 l,⟨(0:Int)<=32/\IntKind.u64.wrap (l * 2 ^ min (32:Int).toNat IntKind.u64.bits)=(l * 4294967296),⟨om,u64_eq rfl om⟩⟩,⟨IntKind.u64.wrap (BitVec.ofInt 64 (t * 72057594037927936) ||| BitVec.ofInt 64 (l * 4294967296)).toNat=((t * 72057594037927936) + (l * 4294967296)),or_eq2 (q:=(t * 256)) 48 281474976710656 rfl om om om om om⟩,tr,⟨IntKind.u64.wrap (BitVec.ofInt 64 ((t * 72057594037927936) + (l * 4294967296)) ||| BitVec.ofInt 64 m).toNat=(((t * 72057594037927936) + (l * 4294967296)) + m),or_eq2 (q:=(l * 65536 + t * 1099511627776)) 16 65536 rfl om om om om om⟩]<|xw_ret<|br (.tup [.u (((t * 72057594037927936) + (l * 4294967296)) + m),.i 0]) (.tup [.u (t * 72057594037927936 + l * 4294967296 + m),.i 0]) (wk_s [(0,⟨((((t * 72057594037927936) + (l * 4294967296)) + m):Int)=(t * 72057594037927936 + l * 4294967296 + m),om⟩)]) (Or.inl <| ⟨om,rfl⟩)
 ·
  refine pc (hright_2 t l m ZZ ZZ ZZ ZZ) ?_
  have h1:(headErr t l m)≠0:=headErr_ne om om
  exact ka [] 1 2 [4,3,2,1] [0] []<|en<|an<|kB [(1,.t)] 2 ⟨[(8,.t),(4,.i (headErr t l m)),(3,.i 0),(2,.u 0),(1,.p 0)],[(A5 t l m)],1⟩ [nT (headErr t l m) 0]<|ct<|kb [] 3 [3,2,1] [0] []<|xw_ret<|an_ret<|bs (.tup [.u 0,.i (headErr t l m)]) (Or.inr <| ⟨om,rfl⟩)
theorem hword_1 (t l m:Int)(hp0:I6 t)(hp1:I6 l)(hp2:U6 m)(hp3:(t=255/\0<=l/\l<=65535/\m=0)\/(1<=t/\t<=200/\0<=l/\l<=16/\m<2 ^ (Int.toNat l)/\m<65536)):Pub Tryz.prog 109 [.agg [.i t,.i l,.u m]] (fun rv=>rv = .tup [.u (t * 72057594037927936 + l * 4294967296 + m),.i 0]) :=
  (hword t l m hp0 hp1 hp2).mono vr
theorem hword_2 (t l m:Int)(hp0:I6 t)(hp1:I6 l)(hp2:U6 m)(hp3:¬ ((t=255/\0<=l/\l<=65535/\m=0)\/(1<=t/\t<=200/\0<=l/\l<=16/\m<2 ^ (Int.toNat l)/\m<65536))):Pub Tryz.prog 109 [.agg [.i t,.i l,.u m]] (fun rv=>rv = .tup [.u 0,.i (headErr t l m)]) :=
  (hword t l m hp0 hp1 hp2).mono vr
theorem htake (w:Int)(hp0:U6 w):Pub Tryz.prog 101 [.u w] (fun rv=>((((w / 72057594037927936)=255/\0<=((w / 4294967296) % 16777216)/\((w / 4294967296) % 16777216)<=65535/\(w % 4294967296)=0)\/(1<=(w / 72057594037927936)/\(w / 72057594037927936)<=200/\0<=((w / 4294967296) % 16777216)/\((w / 4294967296) % 16777216)<=16/\(w % 4294967296)<2 ^ (Int.toNat ((w / 4294967296) % 16777216))/\(w % 4294967296)<65536))/\rv = .tup [.agg (A4 w),.i 0])\/((¬ (((w / 72057594037927936)=255/\0<=((w / 4294967296) % 16777216)/\((w / 4294967296) % 16777216)<=65535/\(w % 4294967296)=0)\/(1<=(w / 72057594037927936)/\(w / 72057594037927936)<=200/\0<=((w / 4294967296) % 16777216)/\((w / 4294967296) % 16777216)<=16/\(w % 4294967296)<2 ^ (Int.toNat ((w / 4294967296) % 16777216))/\(w % 4294967296)<65536)))/\rv = .tup [.agg [.i 0,.i 0,.u 0],.i 10])):=by
 refine pub_of TT_ok Tryz.func101 rfl (by decide) nk kr<|kb [] 2 [3,2,0] [0] []<|kb (A7 w) 12 [4,3,2] [1,0] [⟨(0:Int)<=56/\w.fdiv (2 ^ min (56:Int).toNat IntKind.u64.bits)=(w / 72057594037927936),⟨om,shr_eq rfl⟩⟩,w6 (w / 72057594037927936),⟨(0:Int)<=32/\w.fdiv (2 ^ min (32:Int).toNat IntKind.u64.bits)=(w / 4294967296),⟨om,shr_eq rfl⟩⟩,⟨IntKind.u64.wrap (BitVec.ofInt 64 (w / 4294967296) &&& BitVec.ofInt 64 16777215).toNat=((w / 4294967296) % 16777216),and_eq 24 16777216 (by decide) rfl om om om⟩,w6 ((w / 4294967296) % 16777216),⟨IntKind.u64.wrap (BitVec.ofInt 64 w &&& BitVec.ofInt 64 4294967295).toNat=(w % 4294967296),and_eq 32 4294967296 (by decide) rfl om om om⟩,tr]<|xw_seq<|xw_seq<|reg<|ka [] 1 0 [15,4,3,2] [1,0] [tr] ?_
 by_cases h0:((w / 72057594037927936)=255/\0<=((w / 4294967296) % 16777216)/\((w / 4294967296) % 16777216)<=65535/\(w % 4294967296)=0)\/(1<=(w / 72057594037927936)/\(w / 72057594037927936)<=200/\0<=((w / 4294967296) % 16777216)/\((w / 4294967296) % 16777216)<=16/\(w % 4294967296)<2 ^ (Int.toNat ((w / 4294967296) % 16777216))/\(w % 4294967296)<65536)
 ·
  exact pc (hright_1 (w / 72057594037927936) ((w / 4294967296) % 16777216) (w % 4294967296) om om om ZZ)<|kA [(2,.f)] 1 2 ⟨[(17,.f),(4,.p 1),(3,.i 0),(2,.p 0)],(A8 w),2⟩ [nF 0 0]<|en<|an<|cf<|xw_skip<|an<|kb [] 3 [3,2] [0] [tr,tr]<|xw_ret<|bs (.tup [.agg (A4 w),.i 0]) (Or.inl <| ⟨om,rfl⟩)
 ·
  refine pc (hright_2 (w / 72057594037927936) ((w / 4294967296) % 16777216) (w % 4294967296) om om om ZZ) ?_
  have h1:(headErr (w / 72057594037927936) ((w / 4294967296) % 16777216) (w % 4294967296))≠0:=headErr_ne om om
  exact kA [(2,.t)] 1 2 ⟨[(17,.t),(4,.p 1),(3,.i 0),(2,.p 0)],(A8 w),2⟩ [nT (headErr (w / 72057594037927936) ((w / 4294967296) % 16777216) (w % 4294967296)) 0]<|en<|an<|ct<|kb [] 3 [3,4,2] [1,0] [tr]<|xw_ret<|an_ret<|bs (.tup [.agg [.i 0,.i 0,.u 0],.i 10]) (Or.inr <| ⟨om,rfl⟩)
theorem htake_1 (w:Int)(hp0:U6 w)(hp1:((w / 72057594037927936)=255/\0<=((w / 4294967296) % 16777216)/\((w / 4294967296) % 16777216)<=65535/\(w % 4294967296)=0)\/(1<=(w / 72057594037927936)/\(w / 72057594037927936)<=200/\0<=((w / 4294967296) % 16777216)/\((w / 4294967296) % 16777216)<=16/\(w % 4294967296)<2 ^ (Int.toNat ((w / 4294967296) % 16777216))/\(w % 4294967296)<65536)):Pub Tryz.prog 101 [.u w] (fun rv=>rv = .tup [.agg (A4 w),.i 0]) :=
  (htake w hp0).mono vr
theorem htake_2 (w:Int)(hp0:U6 w)(hp1:¬ (((w / 72057594037927936)=255/\0<=((w / 4294967296) % 16777216)/\((w / 4294967296) % 16777216)<=65535/\(w % 4294967296)=0)\/(1<=(w / 72057594037927936)/\(w / 72057594037927936)<=200/\0<=((w / 4294967296) % 16777216)/\((w / 4294967296) % 16777216)<=16/\(w % 4294967296)<2 ^ (Int.toNat ((w / 4294967296) % 16777216))/\(w % 4294967296)<65536))):Pub Tryz.prog 101 [.u w] (fun rv=>rv = .tup [.agg [.i 0,.i 0,.u 0],.i 10]) :=
  (htake w hp0).mono vr
theorem rhtake (w:Int)(hp0:U6 w):Pub Tryz.prog 44 [.u w] (fun rv=>((((w / 72057594037927936)=255/\0<=((w / 4294967296) % 16777216)/\((w / 4294967296) % 16777216)<=65535/\(w % 4294967296)=0)\/(1<=(w / 72057594037927936)/\(w / 72057594037927936)<=200/\0<=((w / 4294967296) % 16777216)/\((w / 4294967296) % 16777216)<=16/\(w % 4294967296)<2 ^ (Int.toNat ((w / 4294967296) % 16777216))/\(w % 4294967296)<65536))/\rv = .tup [.agg (A4 w),.i 0])\/((¬ (((w / 72057594037927936)=255/\0<=((w / 4294967296) % 16777216)/\((w / 4294967296) % 16777216)<=65535/\(w % 4294967296)=0)\/(1<=(w / 72057594037927936)/\(w / 72057594037927936)<=200/\0<=((w / 4294967296) % 16777216)/\((w / 4294967296) % 16777216)<=16/\(w % 4294967296)<2 ^ (Int.toNat ((w / 4294967296) % 16777216))/\(w % 4294967296)<65536)))/\rv = .tup [.agg [.i 0,.i 0,.u 0],.i 10])):=by
 refine pub_of TT_ok Tryz.func44 rfl (by decide) nk kr<|kb [] 2 [3,2,0] [0] []<|kb (A7 w) 12 [4,3,2] [1,0] [⟨(72057594037927936:Int)≠0/\IntKind.u64.wrap (w.tdiv 72057594037927936)=(w / 72057594037927936),⟨om,u64_tdiv om om om⟩⟩,w6 (w / 72057594037927936),⟨(4294967296:Int)≠0/\IntKind.u64.wrap (w.tdiv 4294967296)=(w / 4294967296),⟨om,u64_tdiv om om om⟩⟩,⟨(16777216:Int)≠0/\(w / 4294967296).tmod 16777216=((w / 4294967296) % 16777216),⟨om,tmod_eq om⟩⟩,w6 ((w / 4294967296) % 16777216),⟨(4294967296:Int)≠0/\w.tmod 4294967296=(w % 4294967296),⟨om,tmod_eq om⟩⟩,tr]<|xw_seq<|xw_seq<|reg<|ka [] 1 0 [15,4,3,2] [1,0] [tr] ?_
 by_cases h0:((w / 72057594037927936)=255/\0<=((w / 4294967296) % 16777216)/\((w / 4294967296) % 16777216)<=65535/\(w % 4294967296)=0)\/(1<=(w / 72057594037927936)/\(w / 72057594037927936)<=200/\0<=((w / 4294967296) % 16777216)/\((w / 4294967296) % 16777216)<=16/\(w % 4294967296)<2 ^ (Int.toNat ((w / 4294967296) % 16777216))/\(w % 4294967296)<65536)
 ·
  exact pc (rhright_1 (w / 72057594037927936) ((w / 4294967296) % 16777216) (w % 4294967296) om om om ZZ)<|kA [(2,.f)] 1 2 ⟨[(17,.f),(4,.p 1),(3,.i 0),(2,.p 0)],(A8 w),2⟩ [nF 0 0]<|en<|an<|cf<|xw_skip<|an<|kb [] 3 [3,2] [0] [tr,tr]<|xw_ret<|bs (.tup [.agg (A4 w),.i 0]) (Or.inl <| ⟨om,rfl⟩)
 ·
  refine pc (rhright_2 (w / 72057594037927936) ((w / 4294967296) % 16777216) (w % 4294967296) om om om ZZ) ?_
  have h1:(headErr (w / 72057594037927936) ((w / 4294967296) % 16777216) (w % 4294967296))≠0:=headErr_ne om om
  exact kA [(2,.t)] 1 2 ⟨[(17,.t),(4,.p 1),(3,.i 0),(2,.p 0)],(A8 w),2⟩ [nT (headErr (w / 72057594037927936) ((w / 4294967296) % 16777216) (w % 4294967296)) 0]<|en<|an<|ct<|kb [] 3 [3,4,2] [1,0] [tr]<|xw_ret<|an_ret<|bs (.tup [.agg [.i 0,.i 0,.u 0],.i 10]) (Or.inr <| ⟨om,rfl⟩)
theorem rhtake_1 (w:Int)(hp0:U6 w)(hp1:((w / 72057594037927936)=255/\0<=((w / 4294967296) % 16777216)/\((w / 4294967296) % 16777216)<=65535/\(w % 4294967296)=0)\/(1<=(w / 72057594037927936)/\(w / 72057594037927936)<=200/\0<=((w / 4294967296) % 16777216)/\((w / 4294967296) % 16777216)<=16/\(w % 4294967296)<2 ^ (Int.toNat ((w / 4294967296) % 16777216))/\(w % 4294967296)<65536)):Pub Tryz.prog 44 [.u w] (fun rv=>rv = .tup [.agg (A4 w),.i 0]) :=
  (rhtake w hp0).mono vr
theorem rhtake_2 (w:Int)(hp0:U6 w)(hp1:¬ (((w / 72057594037927936)=255/\0<=((w / 4294967296) % 16777216)/\((w / 4294967296) % 16777216)<=65535/\(w % 4294967296)=0)\/(1<=(w / 72057594037927936)/\(w / 72057594037927936)<=200/\0<=((w / 4294967296) % 16777216)/\((w / 4294967296) % 16777216)<=16/\(w % 4294967296)<2 ^ (Int.toNat ((w / 4294967296) % 16777216))/\(w % 4294967296)<65536))):Pub Tryz.prog 44 [.u w] (fun rv=>rv = .tup [.agg [.i 0,.i 0,.u 0],.i 10]) :=
  (rhtake w hp0).mono vr
theorem hpointer (t l m i:Int)(hp0:I6 t)(hp1:I6 l)(hp2:U6 m):Pub Tryz.prog 118 [.agg [.i t,.i l,.u m],.i i] (fun rv=>rv = .bool (isPtr l m i)):=by
 refine pub_of TT_ok Tryz.func118 rfl (by decide) nk kr<|kb [] 2 [4,2,1] [0] []<|xw_seq<|reg<|ka [(1,.bool (decide (0<=i)))] 3 0 [7,4,2,1] [0] [sf (decide (0<=i))]<|splitr 7 (x:=(decide (0<=i))) kr (fun h0=>?_) (fun h0=>?_)
 ·
  replace h0:0<=i:=of_decide_eq_true h0
  refine ka [(6,.bool (decide (i<l)))] 6 3 [13,4,2,1] [0] [tr,sf (decide (i<l)),tr]<|splitr 13 (x:=(decide (i<l))) kr (fun h1=>?_) (fun h1=>?_)
  ·
   replace h1:i<l:=of_decide_eq_true h1
   refine kA [(10,.bool (decide (i<64)))] 4 9 ⟨[(17,.bool (decide (i<64))),(4,.f),(2,.p 0),(1,.i i)],[(A5 t l m)],1⟩ [sf (decide (i<64)),tr]<|splitr 17 (x:=(decide (i<64))) kr (fun h2=>?_) (fun h2=>?_)
   ·
    replace h2:i<64:=of_decide_eq_true h2
    refine ka [(16,.i (m.fdiv (2 ^ min (i:Int).toNat IntKind.u64.bits)))] 4 13 [21,17,4] [] [tr,⟨(0:Int)<=i/\(m.fdiv (2 ^ min (i:Int).toNat IntKind.u64.bits))=(m.fdiv (2 ^ min (i:Int).toNat IntKind.u64.bits)),⟨om,rfl⟩⟩] ?_
    have h3:0<=(m.fdiv (2 ^ min (i:Int).toNat IntKind.u64.bits))/\(m.fdiv (2 ^ min (i:Int).toNat IntKind.u64.bits))<=m:=shr_le om
    refine ka [(17,.i ((m.fdiv (2 ^ min (i:Int).toNat IntKind.u64.bits)) % 2)),(18,.bool (((m.fdiv (2 ^ min (i:Int).toNat IntKind.u64.bits)) % 2) == 1))] 4 17 [4] [] [⟨IntKind.u64.wrap (BitVec.ofInt 64 (m.fdiv (2 ^ min (i:Int).toNat IntKind.u64.bits)) &&& BitVec.ofInt 64 1).toNat=((m.fdiv (2 ^ min (i:Int).toNat IntKind.u64.bits)) % 2),and_eq 1 2 (by decide) rfl om om om⟩,sf (((m.fdiv (2 ^ min (i:Int).toNat IntKind.u64.bits)) % 2) == 1),tr]<|en<|an<|xw_ret ?_
    by_cases h4:((m.fdiv (2 ^ min (i:Int).toNat IntKind.u64.bits)) % 2)=1
    ·
     exact br (.bool (((m.fdiv (2 ^ min (i:Int).toNat IntKind.u64.bits)) % 2) == 1)) (.bool (isPtr l m i)) (wk_s [(0,⟨(((m.fdiv (2 ^ min (i:Int).toNat IntKind.u64.bits)) % 2) == 1)=(isPtr l m i),Ab2⟩)]) rfl
    ·
     exact br (.bool (((m.fdiv (2 ^ min (i:Int).toNat IntKind.u64.bits)) % 2) == 1)) (.bool (isPtr l m i)) (wk_s [(0,⟨(((m.fdiv (2 ^ min (i:Int).toNat IntKind.u64.bits)) % 2) == 1)=(isPtr l m i),Ab2⟩)]) rfl
   ·
    replace h2:¬ (i<64):=of_decide_eq_false h2
    exact ka [] 8 13 [4] [] [tr]<|en<|an<|xw_ret<|br (.f) (.bool (isPtr l m i)) (wk_s [(0,⟨false=(isPtr l m i),Ab2⟩)]) rfl
  ·
   replace h1:¬ (i<l):=of_decide_eq_false h1
   exact kA [] 12 9 ⟨[(4,.f)],[],1⟩ [tr,tr]<|en<|an<|xw_ret<|br (.f) (.bool (isPtr l m i)) (wk_s [(0,⟨false=(isPtr l m i),Ab2⟩)]) rfl
 ·
  replace h0:¬ (0<=i):=of_decide_eq_false h0
  exact ka [] 18 3 [4] [] [tr,tr,tr]<|en<|an<|xw_ret<|br (.f) (.bool (isPtr l m i)) (wk_s [(0,⟨false=(isPtr l m i),Ab2⟩)]) rfl
theorem rhpointer (t l m i:Int)(hp0:I6 t)(hp1:I6 l)(hp2:U6 m):Pub Tryz.prog 46 [.agg [.i t,.i l,.u m],.i i] (fun rv=>rv = .bool (isPtr l m i)):=by
 refine pub_of TT_ok Tryz.func46 rfl (by decide) nk kr<|kb [] 2 [4,2,1] [0] []<|xw_seq<|xw_seq<|reg<|ka [(1,.bool (decide (i<0)))] 3 0 [7,4,2,1] [0] [sf (decide (i<0))]<|splitr 7 (x:=(decide (i<0))) kr (fun h0=>?_) (fun h0=>?_)
 ·
  replace h0:i<0:=of_decide_eq_true h0
  exact ka [] 9 3 [16,4,2,1] [0] [tr,tr]<|en<|an<|ct<|kB [] 1 ⟨[(4,.f),(2,.p 0),(1,.i i)],[(A5 t l m)],1⟩ []<|xw_ret<|an_ret<|br (.f) (.bool (isPtr l m i)) (wk_s [(0,⟨false=(isPtr l m i),Ab2⟩)]) rfl
 ·
  replace h0:¬ (i<0):=of_decide_eq_false h0
  refine ka [(6,.bool (decide (l<=i)))] 6 3 [13,4,2,1] [0] [tr,sf (decide (l<=i)),tr]<|splitr 13 (x:=(decide (l<=i))) kr (fun h1=>?_) (fun h1=>?_)
  ·
   replace h1:l<=i:=of_decide_eq_true h1
   exact kA [] 3 9 ⟨[(16,.t),(4,.f),(2,.p 0),(1,.i i)],[(A5 t l m)],1⟩ [tr]<|en<|an<|ct<|kb [] 1 [4,2,1] [0] []<|xw_ret<|an_ret<|br (.f) (.bool (isPtr l m i)) (wk_s [(0,⟨false=(isPtr l m i),Ab2⟩)]) rfl
  ·
   replace h1:¬ (l<=i):=of_decide_eq_false h1
   refine kA [(10,.bool (decide (63<i)))] 3 9 ⟨[(16,.bool (decide (63<i))),(4,.f),(2,.p 0),(1,.i i)],[(A5 t l m)],1⟩ [sf (decide (63<i)),tr]<|en<|an<|xcD (63<i) (fun h2=>?_) (fun h2=>?_)
   ·
    exact kb [] 1 [4,2,1] [0] []<|xw_ret<|an_ret<|br (.f) (.bool (isPtr l m i)) (wk_s [(0,⟨false=(isPtr l m i),Ab2⟩)]) rfl
   ·
    refine xw_skip<|an<|xw_seq<|dregk hmix kr<|kd [] 3 0 [tr]<|qc (rpower i om) ?_
    have h3:(1:Int)<=(2 ^ (Int.toNat i)):=one_le_pow _
    refine kd [(4,.i (m / (2 ^ (Int.toNat i))))] 1 4 [⟨((2 ^ (Int.toNat i)):Int)≠0/\IntKind.u64.wrap (m.tdiv (2 ^ (Int.toNat i)))=(m / (2 ^ (Int.toNat i))),⟨om,u64_tdiv om om om⟩⟩] ?_
    have h4:0<=(m / (2 ^ (Int.toNat i)))/\(m / (2 ^ (Int.toNat i)))<=m:=div_le om om
    refine kd [(5,.i ((m / (2 ^ (Int.toNat i))) % 2)),(6,.bool (((m / (2 ^ (Int.toNat i))) % 2) == 1))] 3 5 [⟨(2:Int)≠0/\(m / (2 ^ (Int.toNat i))).tmod 2=((m / (2 ^ (Int.toNat i))) % 2),⟨om,tmod_eq om⟩⟩,sf (((m / (2 ^ (Int.toNat i))) % 2) == 1)]<|qen<|an<|xw_ret ?_
    by_cases h5:((m / (2 ^ (Int.toNat i))) % 2)=1
    ·
     exact br (.bool (((m / (2 ^ (Int.toNat i))) % 2) == 1)) (.bool (isPtr l m i)) (wk_s [(0,⟨(((m / (2 ^ (Int.toNat i))) % 2) == 1)=(isPtr l m i),Ab2⟩)]) rfl
    ·
     exact br (.bool (((m / (2 ^ (Int.toNat i))) % 2) == 1)) (.bool (isPtr l m i)) (wk_s [(0,⟨(((m / (2 ^ (Int.toNat i))) % 2) == 1)=(isPtr l m i),Ab2⟩)]) rfl
end Go.Proofs.YtmmfpkkamgapkaaGreat.X
