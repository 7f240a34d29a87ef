/- Contracts of Go functions: what each returns,for every input that its premises name; no memory of the caller is touched. Printed by a program. -/
import Derived.Test.YtmmfpkkamgapkaaGreatXs2
import Derived.Test.YtmmfpkkamgapkaaGreatXg8
namespace Go.Proofs.YtmmfpkkamgapkaaGreat.X
open Go Go.RowKit
set_option linter.unusedVariables false
set_option linter.unusedSimpArgs false
abbrev Ba1(W:Int)(xs ys:List Int)(ts:List Th):=rch W xs ys (uq (List.map Th.st ts).flatten)
abbrev Ba2(W:Int)(xs ys:List Int)(f0 f1 f2 t0 t1 t2 sz lm:Int)(ts:List Th)(ph scn fl:Int)(os:List Int)(brk:Int):Nat×Blk:=(0,.cells (mr W xs ys [.i f0,.i f1,.i f2,.i t0,.i t1,.i t2,.i sz,.i lm,.sl false 8 (List.map thS ts),.i ph,.i scn,.i fl,.sl false 1 (List.map (SV.int .i64) os),.i brk]) 32)
abbrev Ba3(ts:List Th)(j1:Int):List SV:=[.sl false 1 (m64 (Th.st (thA ts j1))),.i (Th.b0 (thA ts j1)),.i (Th.b1 (thA ts j1)),.sl false 2 (List.map entS (Th.lg (thA ts j1))),.sl false 8 (List.map opS (Th.lf (thA ts j1))),.sl false 2 (List.map entS (Th.pd (thA ts j1))),.bool (Th.wt (thA ts j1)),.sl false 3 (List.map ansS (Th.dn (thA ts j1)))]
abbrev Ba4(xs ys:List Int)(W:Int)(ts:List Th)(i1:Int):Nat×Blk:=(2,.cells [.i (ldw xs ys (ix (Ba1 W xs ys ts) i1) / 72057594037927936),.i ((ldw xs ys (ix (Ba1 W xs ys ts) i1) / 4294967296) % 16777216),.u (ldw xs ys (ix (Ba1 W xs ys ts) i1) % 4294967296)] 58)
abbrev Ba5(W:Int)(xs ys:List Int)(f0 f1 f2 t0 t1 t2 sz lm:Int)(ts:List Th)(ph scn fl:Int)(os:List Int)(brk:Int):Nat×Blk:=(0,.cells (mr W xs ys [.int .i64 f0,.int .i64 f1,.int .i64 f2,.int .i64 t0,.int .i64 t1,.int .i64 t2,.int .i64 sz,.int .i64 lm,.sl false 8 (List.map thS ts),.int .i64 ph,.int .i64 scn,.int .i64 fl,.sl false 1 (List.map (SV.int .i64) os),.int .i64 brk]) 32)
abbrev Ba6(xs ys:List Int)(W:Int)(ts:List Th)(i1:Int):=twL xs ys (Ba1 W xs ys ts) i1
abbrev Ba7(xs ys:List Int)(W:Int)(ts:List Th)(i1 n1:Int):=hasB ((Ba6 xs ys W ts i1)++(wds (ix (Ba1 W xs ys ts) i1) n1)) (((ix (Ba1 W xs ys ts) i1) / 4294967296 - 1) * 4096 + (((ix (Ba1 W xs ys ts) i1) % 4294967296) + n1))
abbrev Ba8(xs ys:List Int)(W:Int)(ts:List Th)(i1:Int):Nat×Blk:=(1,.row 1 73 (tkM (Ba6 xs ys W ts i1)))
abbrev Ba9(xs ys:List Int)(W:Int)(ts:List Th)(i1 n1:Int):=tkM ((Ba6 xs ys W ts i1)++(wds (ix (Ba1 W xs ys ts) i1) n1))
abbrev Ba10(W:Int)(xs ys:List Int)(ts:List Th):Nat×SV:=(3,.sl false 1 (m64 (Ba1 W xs ys ts)))
theorem Bao{p:Prop}(h:p:=by first|omega|(simp only [Ba1,Ba2,Ba3,Ba4,Ba5,Ba6,Ba7,Ba8,Ba9,Ba10] at *;first|omega|assumption|(simp;done)|(simp;omega))):p:=h
theorem Bab4{p:Prop}(h:p:=by constructor <;> omega):p:=h
theorem Bab3{p:Prop}(h:p:=by first | exact clr_0 | exact clr_next ZZ ZZ):p:=h
theorem Bab2{p:Prop}(h:p:=by first | omega | exact congrArg tkM tw_in | exact congrArg tkM (tw_st om)):p:=h
theorem Bab1{p:Prop}(h:p:=by first | omega | exact congrArg tkM tw_0 | exact congrArg tkM (tw_next om om om)):p:=h
set_option maxHeartbeats 8000000 in
set_option maxHeartbeats 8000000 in
theorem rfree (W:Int)(xs ys:List Int)(f0 f1 f2 t0 t1 t2 sz lm:Int)(ts:List Th)(ph scn fl:Int)(os:List Int)(brk:Int)(hp0:I6 W)(hp1:U64s xs)(hp2:U64s ys)(hp3:I6 f0)(hp4:I6 f1)(hp5:I6 f2)(hp6:I6 t0)(hp7:I6 t1)(hp8:I6 t2)(hp9:I6 sz)(hp10:I6 lm)(hp11:Ths ts)(hp12:(ts.length:Int) * 144<=140737488355000)(hp13:I6 ph)(hp14:I6 scn)(hp15:I6 fl)(hp16:I64s os)(hp17:(os.length:Int) * 8<=140737488355000)(hp18:I6 brk)(hp19:16<=W/\W<=4096/\(xs.length:Int)=W/\(ys.length:Int)=W)(hp20:0<=f0/\f0<=1/\0<=f1/\f1<=f2/\f2=W)(hp21:Bfs ts f1)(hp22:Thq ts)(hp23:(ts.length:Int)<=4):Pub Tryz.prog 9 [.agg (mr W xs ys [.i f0,.i f1,.i f2,.i t0,.i t1,.i t2,.i sz,.i lm,.sl false 8 (List.map thS ts),.i ph,.i scn,.i fl,.sl false 1 (List.map (SV.int .i64) os),.i brk])] (fun rv=>((FrOk W xs ys f0 f1 ts)/\rv = .t)\/(rv = .f)):=by
 refine pub_of TT_ok Tryz.func9 rfl (by decide) nk kr<|kb [] 2 [2,1] [0] []<|xw_seq<|dregk hmix kr<|kd [] 3 0 [tr,tr]<|qc (rrows W xs ys f0 f1 f2 t0 t1 t2 sz lm ts ph scn fl os brk ZZ ZZ ZZ ZZ ZZ ZZ ZZ ZZ ZZ ZZ ZZ ZZ om ZZ ZZ ZZ ZZ om ZZ) ?_
 have h0:RUs (List.map Th.st ts):=(rows_okx ts ZZ ZZ om).1
 have h1:((List.map Th.st ts).length:Int) * 24<=140737488355000:=(rows_okx ts ZZ ZZ om).2.1
 have h2:((List.map Th.st ts).flatten.length:Int) * 8<=140737488355000:=(rows_okx ts ZZ ZZ om).2.2
 refine qc (rall (List.map Th.st ts) ZZ om om) ?_
 obtain ⟨h3,h4⟩:=uq_ok ZZ
 refine qc (rreach W xs ys (uq (List.map Th.st ts).flatten) om om om ZZ ZZ ZZ om) ?_
 obtain ⟨h5,h6⟩:=rch_okx W xs ys (uq (List.map Th.st ts).flatten) om
 refine kd [] 1 6 []<|qen<|an<|xw_seq<|reg<|xoi_allocR TT_ok (t:=73) (d:=4) (z:=(List.replicate 8192 (.f))) kr<|setr 1 (z:=1) (E:=73) (L:=(List.replicate 8192 (.f))) (L':=(tkM [])) kr tk_0<|en<|an<|xw_seq<|kB [] 1 ⟨[(5,.i 0),(4,.p 1),(Ba10 W xs ys ts),(2,.f),(1,.p 0)],[(1,.row 1 73 (tkM [])),(Ba2 W xs ys f0 f1 f2 t0 t1 t2 sz lm ts ph scn fl os brk)],2⟩ []<|xw_block<|xw_loop (α:={q:Int // (0<=q)/\(q<=((Ba1 W xs ys ts).length:Int))/\(((twL xs ys (Ba1 W xs ys ts) q)).Nodup)}) (fun p=>⟨[(5,.i p.1),(4,.p 1),(Ba10 W xs ys ts),(2,.f),(1,.p 0)],[(1,.row 1 73 (tkM (twL xs ys (Ba1 W xs ys ts) p.1))),(Ba2 W xs ys f0 f1 f2 t0 t1 t2 sz lm ts ph scn fl os brk)],2⟩) (fun p=>(((Ba1 W xs ys ts).length:Int) - p.1).toNat) ⟨0,⟨om,Bab1,(by first | exact nd_0 | exact nd_out (k:=n1) om om om ZZ)⟩⟩ (le_s [] [(4,⟨((tkM []):List SV)=(tkM (twL xs ys (Ba1 W xs ys ts) 0)),Bab1⟩)]) ?_
 rintro ⟨i1,h7,h8,h9⟩
 show XW _ _ _ _ _ _ ⟨[(5,.int .i64 i1),(4,.loc 1 0),(Ba10 W xs ys ts),(2,.bool false),(1,.loc 0 0)],[(Ba8 xs ys W ts i1),(Ba5 W xs ys f0 f1 f2 t0 t1 t2 sz lm ts ph scn fl os brk)],2⟩
 have h10:((Ba1 W xs ys ts).length:Int)<=i1\/(oErr W xs ys (ix (Ba1 W xs ys ts) i1)=0/\(ldw xs ys (ix (Ba1 W xs ys ts) i1) / 72057594037927936)≠255/\1<=(ix (Ba1 W xs ys ts) i1) / 4294967296/\(ix (Ba1 W xs ys ts) i1) / 4294967296<=2/\((ldw xs ys (ix (Ba1 W xs ys ts) i1) / 4294967296) % 16777216)<=16/\(ix (Ba1 W xs ys ts) i1) % 4294967296 + ((ldw xs ys (ix (Ba1 W xs ys ts) i1) / 4294967296) % 16777216) + 2<=W):=rch_at rfl om
 refine xw_seq<|kb [(2,.i (((Ba1 W xs ys ts)).length:Int)),(3,.bool (decide (i1<(((Ba1 W xs ys ts)).length:Int))))] 4 [24,5,4,3,2,1] [1,0] [l6 (SV.int .u64) (Ba1 W xs ys ts),sf (decide (i1<(((Ba1 W xs ys ts)).length:Int)))]<|xcD (i1<(((Ba1 W xs ys ts)).length:Int)) (fun h11=>?_) (fun h11=>?_)
 ·
  refine xw_skip<|an<|xw_seq<|xw_block<|xw_seq<|reg<|ka [(2,.u (ix (Ba1 W xs ys ts) i1))] 3 0 [30,5,4,3,2,1] [1,0] [x6 .u64 (Ba1 W xs ys ts) i1] ?_
  have h12:U6 (ix (Ba1 W xs ys ts) i1):=U64s.ix rq _
  refine ka [] 1 3 [31,5,4,3,2,1] [1,0] [tr]<|pc (rwhere_1 (ix (Ba1 W xs ys ts) i1) ZZ om)<|kA [] 7 5 ⟨[(7,.i ((ix (Ba1 W xs ys ts) i1) % 4294967296)),(6,.i ((ix (Ba1 W xs ys ts) i1) / 4294967296 - 1)),(5,.i i1),(4,.p 1),(Ba10 W xs ys ts),(2,.f),(1,.p 0)],[(Ba8 xs ys W ts i1),(Ba2 W xs ys f0 f1 f2 t0 t1 t2 sz lm ts ph scn fl os brk)],2⟩ []<|en<|an<|xw_seq<|sreg hmix [([(Ba8 xs ys W ts i1),(Ba2 W xs ys f0 f1 f2 t0 t1 t2 sz lm ts ph scn fl os brk)],2),([(2,.cells [.i 0,.i 0,.u 0] 58),(Ba8 xs ys W ts i1),(Ba2 W xs ys f0 f1 f2 t0 t1 t2 sz lm ts ph scn fl os brk)],3),([(Ba4 xs ys W ts i1),(Ba8 xs ys W ts i1),(Ba2 W xs ys f0 f1 f2 t0 t1 t2 sz lm ts ph scn fl os brk)],3)] [10,11] [(1,[0]),(4,[2,3]),(5,[2,3,4]),(6,[0,1,2,3,4,5]),(7,[0,1,2,3,4,5,6]),(8,[0,1,2,3,4,5,6,7]),(9,[0,1,2,3,4,5,6,7]),(11,[0,1,2,3,4,5,6,7,8,10]),(12,[0,1,2,3,4,5,6,7,8,9,10,11])] kr kr kr kr kr<|ke [(4,.u (ix (Ba1 W xs ys ts) i1))] 5 0 [tr,tr,sf (SV.agg (mm W xs ys)),tr,tr,tr,x6 .u64 (Ba1 W xs ys ts) i1,sf (SV.elt (.u (ix (Ba1 W xs ys ts) i1))),x6 .u64 (Ba1 W xs ys ts) i1] ?_
  have h13:U6 (ix (Ba1 W xs ys ts) i1):=U64s.ix rq _
  refine ke [] 1 5 [tr,sf (SV.int .u64 (ix (Ba1 W xs ys ts) i1)),tr]<|sc (roat_1 W xs ys (ix (Ba1 W xs ys ts) i1) om om om ZZ ZZ ZZ om) ?_
  obtain ⟨h14,h15,h16⟩:=oErr_ok W xs ys (ix (Ba1 W xs ys ts) i1) om
  refine ke [] 6 7 [tr,tr,tr,tr,sf ([(2,.cells [.i 0,.i 0,.u 0] 58),(Ba8 xs ys W ts i1),(Ba2 W xs ys f0 f1 f2 t0 t1 t2 sz lm ts ph scn fl os brk)] : Mem),sf (3:Nat),tr,sf ([(Ba4 xs ys W ts i1),(Ba8 xs ys W ts i1),(Ba2 W xs ys f0 f1 f2 t0 t1 t2 sz lm ts ph scn fl os brk)] : Mem),sf (3:Nat),tr]<|sen<|an<|kB [] 1 ⟨[(11,.i 0),(9,.p 2),(7,.i ((ix (Ba1 W xs ys ts) i1) % 4294967296)),(6,.i ((ix (Ba1 W xs ys ts) i1) / 4294967296 - 1)),(5,.i i1),(4,.p 1),(Ba10 W xs ys ts),(2,.f),(1,.p 0)],[(Ba4 xs ys W ts i1),(Ba8 xs ys W ts i1),(Ba2 W xs ys f0 f1 f2 t0 t1 t2 sz lm ts ph scn fl os brk)],3⟩ []<|xw_block<|xw_loop (α:={q:Int // (0<=q)/\(q<=((ldw xs ys (ix (Ba1 W xs ys ts) i1) / 4294967296) % 16777216) + 2)/\((((Ba6 xs ys W ts i1)++(wds (ix (Ba1 W xs ys ts) i1) q))).Nodup)}) (fun p=>⟨[(11,.i p.1),(9,.p 2),(7,.i ((ix (Ba1 W xs ys ts) i1) % 4294967296)),(6,.i ((ix (Ba1 W xs ys ts) i1) / 4294967296 - 1)),(5,.i i1),(4,.p 1),(Ba10 W xs ys ts),(2,.f),(1,.p 0)],[(Ba4 xs ys W ts i1),(1,.row 1 73 (tkM ((Ba6 xs ys W ts i1)++(wds (ix (Ba1 W xs ys ts) i1) p.1)))),(Ba2 W xs ys f0 f1 f2 t0 t1 t2 sz lm ts ph scn fl os brk)],3⟩) (fun p=>(((ldw xs ys (ix (Ba1 W xs ys ts) i1) / 4294967296) % 16777216) + 2 - p.1).toNat) ⟨0,⟨om,Bab2,(by first | exact nd_in ZZ | exact nd_st om ZZ ZZ)⟩⟩ (le_s [] [(10,⟨((tkM (Ba6 xs ys W ts i1)):List SV)=(tkM ((Ba6 xs ys W ts i1)++(wds (ix (Ba1 W xs ys ts) i1) 0))),Bab2⟩)]) ?_
  rintro ⟨n1,h17,h18,h19⟩
  show XW _ _ _ _ _ _ ⟨[(11,.int .i64 n1),(9,.loc 2 0),(7,.int .i64 ((ix (Ba1 W xs ys ts) i1) % 4294967296)),(6,.int .i64 ((ix (Ba1 W xs ys ts) i1) / 4294967296 - 1)),(5,.int .i64 i1),(4,.loc 1 0),(Ba10 W xs ys ts),(2,.bool false),(1,.loc 0 0)],[(2,.cells [.int .i64 (ldw xs ys (ix (Ba1 W xs ys ts) i1) / 72057594037927936),.int .i64 ((ldw xs ys (ix (Ba1 W xs ys ts) i1) / 4294967296) % 16777216),.int .u64 (ldw xs ys (ix (Ba1 W xs ys ts) i1) % 4294967296)] 58),(1,.row 1 73 (Ba9 xs ys W ts i1 n1)),(Ba5 W xs ys f0 f1 f2 t0 t1 t2 sz lm ts ph scn fl os brk)],3⟩
  refine xw_seq<|xw_seq<|reg<|ka [] 2 0 [47,46,11,9,7,6,5,4,3,2,1] [2,1,0] [tr]<|pc (rhwords_2 (ldw xs ys (ix (Ba1 W xs ys ts) i1) / 72057594037927936) ((ldw xs ys (ix (Ba1 W xs ys ts) i1) / 4294967296) % 16777216) (ldw xs ys (ix (Ba1 W xs ys ts) i1) % 4294967296) om om om om om)<|ka [(3,.bool (decide (n1<(((ldw xs ys (ix (Ba1 W xs ys ts) i1) / 4294967296) % 16777216) + 2))))] 1 3 [49,11,9,7,6,5,4,3,2,1] [2,1,0] [sf (decide (n1<(((ldw xs ys (ix (Ba1 W xs ys ts) i1) / 4294967296) % 16777216) + 2)))]<|en<|an<|xcD (n1<(((ldw xs ys (ix (Ba1 W xs ys ts) i1) / 4294967296) % 16777216) + 2)) (fun h20=>?_) (fun h20=>?_)
  ·
   refine xw_skip<|an<|xw_seq<|xw_block<|xw_seq<|xw_seq<|reg<|ka [(3,.i (((ix (Ba1 W xs ys ts) i1) % 4294967296) + n1))] 6 0 [57,11,9,7,6,5,4,3,2,1] [2,1,0] [w6 (((ix (Ba1 W xs ys ts) i1) % 4294967296) + n1),⟨(0:Int)<=((ix (Ba1 W xs ys ts) i1) / 4294967296 - 1)/\((ix (Ba1 W xs ys ts) i1) / 4294967296 - 1)<((2:Nat):Int),Bab4⟩,⟨(0:Int)<=(((ix (Ba1 W xs ys ts) i1) % 4294967296) + n1)/\(((ix (Ba1 W xs ys ts) i1) % 4294967296) + n1)<((4096:Nat):Int),Bab4⟩]<|setl 57 (r:=1) (k:=((0 + Int.toNat ((ix (Ba1 W xs ys ts) i1) / 4294967296 - 1) * 4096) + Int.toNat (((ix (Ba1 W xs ys ts) i1) % 4294967296) + n1) * 1)) kr<|kA [(6,.bool (Ba7 xs ys W ts i1 n1))] 1 6 ⟨[(58,.bool (Ba7 xs ys W ts i1 n1)),(11,.i n1),(9,.p 2),(7,.i ((ix (Ba1 W xs ys ts) i1) % 4294967296)),(6,.i ((ix (Ba1 W xs ys ts) i1) / 4294967296 - 1)),(5,.i i1),(4,.p 1),(Ba10 W xs ys ts),(2,.f),(1,.p 0)],[(Ba4 xs ys W ts i1),(1,.row 1 73 (Ba9 xs ys W ts i1 n1)),(Ba2 W xs ys f0 f1 f2 t0 t1 t2 sz lm ts ph scn fl os brk)],3⟩ [⟨((Ba9 xs ys W ts i1 n1))[((0 + Int.toNat ((ix (Ba1 W xs ys ts) i1) / 4294967296 - 1) * 4096) + Int.toNat (((ix (Ba1 W xs ys ts) i1) % 4294967296) + n1) * 1)]? = some (.bool (Ba7 xs ys W ts i1 n1)),(tk_at om om)⟩]<|en<|an<|xw_cond (b:=(Ba7 xs ys W ts i1 n1)) kr (fun h21=>?_) (fun h21=>?_)
   ·
    exact kb [] 1 [2,11,9,7,6,5,4,3,1] [2,1,0] []<|xw_ret<|an_ret<|ib_ret<|an_ret<|ag_ret<|ib_ret<|ib_ret<|an_ret<|ag_ret<|ib_ret<|an_ret<|bs (.f) (Or.inr <| rfl)
   ·
    exact xw_skip<|an<|reg<|ka [(3,.i (((ix (Ba1 W xs ys ts) i1) % 4294967296) + n1))] 6 0 [64,11,9,7,6,5,4,3,2,1] [2,1,0] [w6 (((ix (Ba1 W xs ys ts) i1) % 4294967296) + n1),⟨(0:Int)<=((ix (Ba1 W xs ys ts) i1) / 4294967296 - 1)/\((ix (Ba1 W xs ys ts) i1) / 4294967296 - 1)<((2:Nat):Int),Bab4⟩,⟨(0:Int)<=(((ix (Ba1 W xs ys ts) i1) % 4294967296) + n1)/\(((ix (Ba1 W xs ys ts) i1) % 4294967296) + n1)<((4096:Nat):Int),Bab4⟩]<|setl 64 (r:=1) (k:=((0 + Int.toNat ((ix (Ba1 W xs ys ts) i1) / 4294967296 - 1) * 4096) + Int.toNat (((ix (Ba1 W xs ys ts) i1) % 4294967296) + n1) * 1)) kr<|ka [] 1 6 [11,9,7,6,5,4,3,2,1] [2,1,0] [⟨((0 + Int.toNat ((ix (Ba1 W xs ys ts) i1) / 4294967296 - 1) * 4096) + Int.toNat (((ix (Ba1 W xs ys ts) i1) % 4294967296) + n1) * 1)<((Ba9 xs ys W ts i1 n1)).length,(by rw [tk_len]; omega)⟩]<|setr 1 (z:=1) (E:=73) (L:=(((Ba9 xs ys W ts i1 n1)).set ((0 + Int.toNat ((ix (Ba1 W xs ys ts) i1) / 4294967296 - 1) * 4096) + Int.toNat (((ix (Ba1 W xs ys ts) i1) % 4294967296) + n1) * 1) (.t))) (L':=(tkM (((Ba6 xs ys W ts i1)++(wds (ix (Ba1 W xs ys ts) i1) n1))++[(((ix (Ba1 W xs ys ts) i1) / 4294967296 - 1) * 4096 + (((ix (Ba1 W xs ys ts) i1) % 4294967296) + n1))]))) kr (tk_set om om)<|en<|ib<|an<|kc [(1,.i (n1 + 1))] 3 [11,9,7,6,5,4,3,2,1] [2,1,0] [w6 (n1 + 1)]<|ag ⟨(n1 + 1),⟨om,Bab2,(by first | exact nd_in ZZ | exact nd_st om ZZ ZZ)⟩⟩ (le_s [] [(10,⟨((tkM (((Ba6 xs ys W ts i1)++(wds (ix (Ba1 W xs ys ts) i1) n1))++[(((ix (Ba1 W xs ys ts) i1) / 4294967296 - 1) * 4096 + (((ix (Ba1 W xs ys ts) i1) % 4294967296) + n1))])):List SV)=(tkM ((Ba6 xs ys W ts i1)++(wds (ix (Ba1 W xs ys ts) i1) (n1 + 1)))),Bab2⟩)]) dm
  ·
   exact xw_exit<|an_exit<|ag_exit<|ib_same<|ib<|an<|kc [(1,.i (i1 + 1))] 3 [5,4,3,2,1] [1,0] [(by (try simp only [Ba1,Ba2,Ba3,Ba4,Ba5,Ba6,Ba7,Ba8,Ba9,Ba10] at *);exact w6 (i1 + 1))]<|ag ⟨(i1 + 1),⟨om,Bab1,(by first | exact nd_0 | exact nd_out (k:=n1) om om om ZZ)⟩⟩ (le_s [] [(4,⟨((Ba9 xs ys W ts i1 n1):List SV)=(tkM (twL xs ys (Ba1 W xs ys ts) (i1 + 1))),Bab1⟩)]) dm
 ·
  refine xw_exit<|an_exit<|ag_exit<|ib_same<|an<|xw_seq<|kb [] 4 [12,4,2,1] [1,0] [tr]<|xw_block<|xw_loop (α:={q:Int // (f1<=q)/\(clr0 (Ba6 xs ys W ts i1) f0 f1 q)}) (fun p=>⟨[(12,.i p.1),(4,.p 1),(2,.f),(1,.p 0)],[(Ba8 xs ys W ts i1),(Ba2 W xs ys f0 f1 f2 t0 t1 t2 sz lm ts ph scn fl os brk)],2⟩) (fun p=>(W - p.1).toNat) ⟨f1,⟨om,Bab3⟩⟩ (le_s []) ?_
  rintro ⟨at1,h12,h13⟩
  show XW _ _ _ _ _ _ ⟨[(12,.int .i64 at1),(4,.loc 1 0),(2,.bool false),(1,.loc 0 0)],[(Ba8 xs ys W ts i1),(Ba5 W xs ys f0 f1 f2 t0 t1 t2 sz lm ts ph scn fl os brk)],2⟩
  refine xw_seq<|kb [(4,.bool (decide (at1<W)))] 5 [72,12,4,2,1] [1,0] [tr,sf (decide (at1<W))]<|xcD (at1<W) (fun h14=>?_) (fun h14=>?_)
  ·
   refine xw_skip<|an<|xw_seq<|xw_block<|xw_seq<|reg<|ka [] 6 0 [80,12,4,2,1] [1,0] [tr,⟨(0:Int)<=f0/\f0<((2:Nat):Int),Bab4⟩,⟨(0:Int)<=at1/\at1<((4096:Nat):Int),Bab4⟩]<|setl 80 (r:=1) (k:=((0 + Int.toNat f0 * 4096) + Int.toNat at1 * 1)) kr<|ka [(6,.bool (hasB (Ba6 xs ys W ts i1) (f0 * 4096 + at1)))] 1 6 [81,12,4,2,1] [1,0] [⟨((tkM (Ba6 xs ys W ts i1)))[((0 + Int.toNat f0 * 4096) + Int.toNat at1 * 1)]? = some (.bool (hasB (Ba6 xs ys W ts i1) (f0 * 4096 + at1))),(tk_at om om)⟩]<|en<|an<|xw_cond (b:=(hasB (Ba6 xs ys W ts i1) (f0 * 4096 + at1))) kr (fun h15=>?_) (fun h15=>?_)
   ·
    exact kB [] 1 ⟨[(2,.f),(12,.i at1),(4,.p 1),(1,.p 0)],[(Ba8 xs ys W ts i1),(Ba2 W xs ys f0 f1 f2 t0 t1 t2 sz lm ts ph scn fl os brk)],2⟩ []<|xw_ret<|ib_ret<|an_ret<|ag_ret<|ib_ret<|an_ret<|bs (.f) (Or.inr <| rfl)
   ·
    exact xw_skip<|ib<|an<|kC [(1,.i (at1 + 1))] 3 ⟨[(12,.i (at1 + 1)),(4,.p 1),(2,.f),(1,.p 0)],[(Ba8 xs ys W ts i1),(Ba2 W xs ys f0 f1 f2 t0 t1 t2 sz lm ts ph scn fl os brk)],2⟩ [w6 (at1 + 1)]<|ag ⟨(at1 + 1),⟨om,Bab3⟩⟩ (le_s []) dm
  ·
   refine xw_exit<|an_exit<|ag_exit<|ib_same<|an<|xw_seq<|kb [] 1 [13,4,2,1] [1,0] []<|xw_block<|xw_loop (α:={q:Int // (0<=q)/\(q<=(ts.length:Int))/\(clrT (Ba6 xs ys W ts i1) f0 ts q)}) (fun p=>⟨[(13,.i p.1),(4,.p 1),(2,.f),(1,.p 0)],[(Ba8 xs ys W ts i1),(Ba2 W xs ys f0 f1 f2 t0 t1 t2 sz lm ts ph scn fl os brk)],2⟩) (fun p=>((ts.length:Int) - p.1).toNat) ⟨0,⟨om,om,(by first | exact clrT_0 | exact clrT_next (q:=q1) ZZ om ZZ)⟩⟩ (le_s []) ?_
   rintro ⟨j1,h15,h16,h17⟩
   show XW _ _ _ _ _ _ ⟨[(13,.int .i64 j1),(4,.loc 1 0),(2,.bool false),(1,.loc 0 0)],[(Ba8 xs ys W ts i1),(Ba5 W xs ys f0 f1 f2 t0 t1 t2 sz lm ts ph scn fl os brk)],2⟩
   have h18:(((Th.b0 (thA ts j1))=0/\(Th.b1 (thA ts j1))=0)\/(0<=(Th.b0 (thA ts j1))/\(Th.b0 (thA ts j1))<=(Th.b1 (thA ts j1))/\(Th.b1 (thA ts j1))<=f1))/\((Th.pd (thA ts j1)).length:Int)<=1:=Bfs.at ZZ om _
   refine xw_seq<|kb [(3,.i ((ts).length:Int)),(4,.bool (decide (j1<((ts).length:Int))))] 5 [86,13,4,2,1] [1,0] [tr,l6 thS ts,sf (decide (j1<((ts).length:Int)))]<|xcD (j1<((ts).length:Int)) (fun h19=>?_) (fun h19=>?_)
   ·
    refine xw_skip<|an<|xw_seq<|xw_block<|xw_seq<|reg<|ka [(3,.agg (Ba3 ts j1))] 4 0 [92,13,4,2,1] [1,0] [tr,⟨(0:Int)<=j1/\j1<((((List.map thS ts)).length:Nat):Int)/\((List.map thS ts))[(j1:Int).toNat]? = some (.agg (Ba3 ts j1)),(ix_th om lw)⟩] ?_
    have h20:U64s (Th.st (thA ts j1)):=(Ths.at rq _).1
    have h21:((Th.st (thA ts j1)).length:Int) * 8<=140737488355000:=(Ths.at rq _).2.1
    have h22:(I6 (Th.b0 (thA ts j1))):=(Ths.at rq _).2.2.1
    have h23:(I6 (Th.b1 (thA ts j1))):=(Ths.at rq _).2.2.2.1
    have h24:Ents (Th.lg (thA ts j1)):=(Ths.at rq _).2.2.2.2.1
    have h25:((Th.lg (thA ts j1)).length:Int) * 16<=140737488355000:=(Ths.at rq _).2.2.2.2.2.1
    have h26:Ops (Th.lf (thA ts j1)):=(Ths.at rq _).2.2.2.2.2.2.1
    have h27:((Th.lf (thA ts j1)).length:Int) * 64<=140737488355000:=(Ths.at rq _).2.2.2.2.2.2.2.1
    have h28:Ents (Th.pd (thA ts j1)):=(Ths.at rq _).2.2.2.2.2.2.2.2.1
    have h29:((Th.pd (thA ts j1)).length:Int) * 16<=140737488355000:=(Ths.at rq _).2.2.2.2.2.2.2.2.2.1
    have h30:Anss (Th.dn (thA ts j1)):=(Ths.at rq _).2.2.2.2.2.2.2.2.2.2.1
    have h31:((Th.dn (thA ts j1)).length:Int) * 24<=140737488355000:=(Ths.at rq _).2.2.2.2.2.2.2.2.2.2.2
    refine ka [] 4 4 [14,13,4,2,1] [1,0] [tr]<|en<|an<|xw_block<|xw_loop (α:={q:Int // ((Th.b0 (thA ts j1))<=q)/\(clr0 (Ba6 xs ys W ts i1) f0 (Th.b0 (thA ts j1)) q)}) (fun p=>⟨[(14,.i p.1),(13,.i j1),(4,.p 1),(2,.f),(1,.p 0)],[(Ba8 xs ys W ts i1),(Ba2 W xs ys f0 f1 f2 t0 t1 t2 sz lm ts ph scn fl os brk)],2⟩) (fun p=>((Th.b1 (thA ts j1)) - p.1).toNat) ⟨(Th.b0 (thA ts j1)),⟨om,Bab3⟩⟩ (le_s []) ?_
    rintro ⟨q1,h32,h33⟩
    show XW _ _ _ _ _ _ ⟨[(14,.int .i64 q1),(13,.int .i64 j1),(4,.loc 1 0),(2,.bool false),(1,.loc 0 0)],[(Ba8 xs ys W ts i1),(Ba5 W xs ys f0 f1 f2 t0 t1 t2 sz lm ts ph scn fl os brk)],2⟩
    refine xw_seq<|xw_seq<|reg<|ka [(4,.agg (Ba3 ts j1))] 5 0 [100,96,14,13,4,2,1] [1,0] [tr,⟨(0:Int)<=j1/\j1<((((List.map thS ts)).length:Nat):Int)/\((List.map thS ts))[(j1:Int).toNat]? = some (.agg (Ba3 ts j1)),(ix_th om lw)⟩] ?_
    have h34:U64s (Th.st (thA ts j1)):=(Ths.at rq _).1
    have h35:((Th.st (thA ts j1)).length:Int) * 8<=140737488355000:=(Ths.at rq _).2.1
    have h36:(I6 (Th.b0 (thA ts j1))):=(Ths.at rq _).2.2.1
    have h37:(I6 (Th.b1 (thA ts j1))):=(Ths.at rq _).2.2.2.1
    have h38:Ents (Th.lg (thA ts j1)):=(Ths.at rq _).2.2.2.2.1
    have h39:((Th.lg (thA ts j1)).length:Int) * 16<=140737488355000:=(Ths.at rq _).2.2.2.2.2.1
    have h40:Ops (Th.lf (thA ts j1)):=(Ths.at rq _).2.2.2.2.2.2.1
    have h41:((Th.lf (thA ts j1)).length:Int) * 64<=140737488355000:=(Ths.at rq _).2.2.2.2.2.2.2.1
    have h42:Ents (Th.pd (thA ts j1)):=(Ths.at rq _).2.2.2.2.2.2.2.2.1
    have h43:((Th.pd (thA ts j1)).length:Int) * 16<=140737488355000:=(Ths.at rq _).2.2.2.2.2.2.2.2.2.1
    have h44:Anss (Th.dn (thA ts j1)):=(Ths.at rq _).2.2.2.2.2.2.2.2.2.2.1
    have h45:((Th.dn (thA ts j1)).length:Int) * 24<=140737488355000:=(Ths.at rq _).2.2.2.2.2.2.2.2.2.2.2
    refine ka [(8,.bool (decide (q1<(Th.b1 (thA ts j1)))))] 4 5 [104,14,13,4,2,1] [1,0] [tr,sf (decide (q1<(Th.b1 (thA ts j1))))]<|en<|an<|xcD (q1<(Th.b1 (thA ts j1))) (fun h46=>?_) (fun h46=>?_)
    ·
     refine xw_skip<|an<|xw_seq<|xw_block<|xw_seq<|reg<|ka [] 6 0 [112,14,13,4,2,1] [1,0] [tr,⟨(0:Int)<=f0/\f0<((2:Nat):Int),Bab4⟩,⟨(0:Int)<=q1/\q1<((4096:Nat):Int),Bab4⟩]<|setl 112 (r:=1) (k:=((0 + Int.toNat f0 * 4096) + Int.toNat q1 * 1)) kr<|kA [(6,.bool (hasB (Ba6 xs ys W ts i1) (f0 * 4096 + q1)))] 1 6 ⟨[(113,.bool (hasB (Ba6 xs ys W ts i1) (f0 * 4096 + q1))),(14,.i q1),(13,.i j1),(4,.p 1),(2,.f),(1,.p 0)],[(Ba8 xs ys W ts i1),(Ba2 W xs ys f0 f1 f2 t0 t1 t2 sz lm ts ph scn fl os brk)],2⟩ [⟨((tkM (Ba6 xs ys W ts i1)))[((0 + Int.toNat f0 * 4096) + Int.toNat q1 * 1)]? = some (.bool (hasB (Ba6 xs ys W ts i1) (f0 * 4096 + q1))),(tk_at om om)⟩]<|en<|an<|xw_cond (b:=(hasB (Ba6 xs ys W ts i1) (f0 * 4096 + q1))) kr (fun h47=>?_) (fun h47=>?_)
     ·
      exact kb [] 1 [2,14,13,4,1] [1,0] []<|xw_ret<|ib_ret<|an_ret<|ag_ret<|ib_ret<|ib_ret<|an_ret<|ag_ret<|ib_ret<|an_ret<|bs (.f) (Or.inr <| rfl)
     ·
      exact xw_skip<|ib<|an<|kc [(1,.i (q1 + 1))] 3 [14,13,4,2,1] [1,0] [w6 (q1 + 1)]<|ag ⟨(q1 + 1),⟨om,Bab3⟩⟩ (le_s []) dm
    ·
     exact xw_exit<|an_exit<|ag_exit<|ib_same<|ib<|an<|kc [(1,.i (j1 + 1))] 3 [13,4,2,1] [1,0] [w6 (j1 + 1)]<|ag ⟨(j1 + 1),⟨om,om,(by first | exact clrT_0 | exact clrT_next (q:=q1) ZZ om ZZ)⟩⟩ (le_s []) dm
   ·
    exact xw_exit<|an_exit<|ag_exit<|ib_same<|an<|kb [] 1 [2] [] []<|xw_ret<|bs (.t) (Or.inl <| ⟨(by first | rfl | exact free_ok (i:=i1) (at1:=at1) (j1:=j1) om rfl Bao ZZ om ZZ om ZZ),rfl⟩)
end Go.Proofs.YtmmfpkkamgapkaaGreat.X
