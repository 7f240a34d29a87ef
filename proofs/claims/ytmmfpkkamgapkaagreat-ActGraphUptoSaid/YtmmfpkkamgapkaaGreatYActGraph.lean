/- Contracts of Go functions: what each returns,for every input that its premises name; no memory of the caller is touched. Printed by a program. -/
import Derived.Test.YtmmfpkkamgapkaaGreatXn1
import Derived.Test.YtmmfpkkamgapkaaGreatXg9
import Derived.Test.YtmmfpkkamgapkaaGreatXs3
import Derived.Test.YtmmfpkkamgapkaaGreatXs5
import Derived.Test.YtmmfpkkamgapkaaGreatXr5a
namespace Go.Proofs.YtmmfpkkamgapkaaGreat.X
open Go Go.RowKit
set_option linter.unusedVariables false
set_option linter.unusedSimpArgs false
abbrev Ea7(ts:List Th):=List.map Th.st ts
abbrev Ea1(W:Int)(xs ys:List Int)(ts:List Th)(th:Int):=gDo (ofN W xs ys (Ea7 ts)) (ofS W xs ys (Ea7 ts)) th (OpV.mk (OpV.k (o0 ts th)) (OpV.h (o0 ts th)) (OpV.i (o0 ts th)) (OpV.j (o0 ts th)) (OpV.v (o0 ts th)) (OpV.t (o0 ts th)) (OpV.l (o0 ts th)) (OpV.m (o0 ts th)))
abbrev Ea2(W:Int)(xs ys:List Int)(ts:List Th):List SV:=[.sl false 4 (List.map nodeS (ofN W xs ys (Ea7 ts))),.sl false 1 (List.map rowI (ofS W xs ys (Ea7 ts)))]
abbrev Ea3(W:Int)(xs ys:List Int)(ts:List Th)(th:Int):List SV:=[.sl false 4 (List.map nodeS (GR.ns (Ea1 W xs ys ts th))),.sl false 1 (List.map rowI (GR.ss (Ea1 W xs ys ts th)))]
abbrev Ea6(ts:List Th)(th:Int)(st141:List Int)(p142 q143:Int)(pd144:List Ent)(wt148:Bool)(e145 v146:Int)(yes147:Bool):=Th.dn (thA (tD ts th st141 p142 q143 pd144 wt148 e145 v146 yes147) th)
abbrev Ea4(ts:List Th)(th:Int)(st141:List Int)(p142 q143:Int)(pd144:List Ent)(wt148:Bool)(e145 v146:Int)(yes147:Bool):=ansA (Ea6 ts th st141 p142 q143 pd144 wt148 e145 v146 yes147) ((((Ea6 ts th st141 p142 q143 pd144 wt148 e145 v146 yes147)).length:Int) - 1)
abbrev Ea5(W:Int)(xs ys:List Int)(ts:List Th)(th:Int):List SV:=[.i (GR.e (Ea1 W xs ys ts th)),.u (GR.v (Ea1 W xs ys ts th)),.bool (GR.y (Ea1 W xs ys ts th))]
abbrev Ea8(ts:List Th)(th:Int):=Th.lf (thA ts th)
abbrev Ea9(ts:List Th)(th:Int):=Th.dn (thA ts th)
abbrev Ea10(ts:List Th)(th:Int):SV:=.agg (tc (thA ts th))
abbrev Ea11:Nat×Blk:=(4,.cells [.i 0,.u 0,.f] 54)
abbrev Ea12:Nat×Blk:=(1,.cells [.nils,.nils] 46)
abbrev Ea13(W:Int)(xs ys:List Int)(ts:List Th):Nat×Blk:=(1,.cells (Ea2 W xs ys ts) 46)
abbrev Ea14:Nat×Blk:=(3,.cells [.nils,.nils] 46)
abbrev Ea15(W:Int)(xs ys:List Int)(f0 f1 f2 t0 t1 t2 sz lm:Int)(ts:List Th)(ph scn fl:Int)(os:List Int)(brk:Int):Nat×Blk:=(0,.cells (hp W xs ys f0 f1 f2 t0 t1 t2 sz lm ts ph scn fl os brk) 32)
theorem Eao{p:Prop}(h:p:=by first|omega|(simp only [Ea7,Ea1,Ea2,Ea3,Ea6,Ea4,Ea5,Ea8,Ea9,Ea10,Ea11,Ea12,Ea13,Ea14,Ea15,K1,K2,K8,K3,K4,K5,K6,K7,M13,M21,M19,M22,M14,M15,M16,M17,M18,M20,M23,M24,P1,P7,P8,P2,P3,P9,P10,P4,P12,P11,P5,P6,N4,O1,G1,G2,G3,G4,J1,J2,J3,J4,J5,J6,J7,J8,J9,E1,E3,E4,E5,E6,E7,E8,B3,B4,B5,B6,C3,C4,C5,C6,D1,D2,D3,D4,D5,D6,D7,D8,A4,A5,A6,A7,A8,A9,A10,A11,L12,L4,L10,L5,L2,L3,L6,L7,L8,L9,L11,L13,L14,L15,Ba1,Ba2,Ba3,Ba4,Ba5,Ba6,Ba7,Ba8,Ba9,Ba10,Aa19,Aa23,Aa20,Aa25,Aa30,Aa22,Aa21,Aa28,Aa24,Aa26,Aa27,Aa29,Aa31,Aa32,Aa33,Aa34,Aa35,Aa36,Z1,Z2,Z3,Z4,Z5,Z6,Z7,Q1,Q2,Q3,Q4,Da1,Da2,Da3,Da4,Ca6,Ca1,Ca2,Ca3,Ca4,Ca17,Ca5,Ca7,Ca8,Ca9,Ca10,Ca11,Ca16,Ca12,Ca13,Ca14,Ca15,Ca18,Ca19,V14,V18,V1,V2,V3,V4,V23,V5,V6,V15,V35,V16,V20,V7,V8,V9,V29,V10,V11,V12,V13,V17,V19,V21,V22,V24,V25,V26,V27,V28,V30,V31,V32,V33,V34,V36,V37,R1,R4,T5,T13,T1,T2,T3,T4,T10,T6,T7,T8,T9,T11,T25,T12,T14,T15,T16,T17,T18,T19,T20,T21,T22,T23,T24,T26,T27] at *;first|omega|assumption|(simp;done)|(simp;omega))):p:=h
theorem Eab1{p:Prop}(h:p:=by rw [th_set om om]; try first | assumption | (simp; done) | (simp; omega)):p:=h
set_option maxHeartbeats 8000000 in
set_option maxHeartbeats 8000000 in
theorem actGraph (W:Int)(xs ys:List Int)(f0 f1 f2 t0 t1 t2 sz lm:Int)(ts:List Th)(ph scn fl:Int)(os:List Int)(brk th:Int)(hp0:I6 W)(hp1:U64s xs)(hp2:U64s ys)(hp3:I6 f0)(hp4:I6 f1)(hp5:I6 f2)(hp6:I6 t0)(hp7:I6 t1)(hp8:I6 t2)(hp9:I6 sz)(hp10:I6 lm)(hp11:Ths ts)(hp12:(ts.length:Int) * 144<=140737488355000)(hp13:I6 ph)(hp14:I6 scn)(hp15:I6 fl)(hp16:I64s os)(hp17:(os.length:Int) * 8<=140737488355000)(hp18:I6 brk)(hp19:I6 th)(hp20:Thg ts)(hp21:(xs.length:Int) * 8<=140737488355000)(hp22:(ys.length:Int) * 8<=140737488355000)(hp23:Thq ts)(hp24:(os.length:Int) * 8<=140737488351232):Pub Tryz.prog 3 [.agg (hp W xs ys f0 f1 f2 t0 t1 t2 sz lm ts ph scn fl os brk),.i th] (fun rv=>rv = .t):=by
 refine pub_of TT_ok Tryz.func3 rfl (by decide) nk kr<|kb [] 2 [4,2,1] [0] []<|xw_seq<|reg<|pc (shown17)<|ka [] 1 1 [5,4,2,1] [0] []<|en<|an<|xw_seq<|reg<|ka [] 1 0 [15,5,4,2,1] [0] [tr] ?_
 by_cases h0:(RGT W xs ys f0 f1 f2 t0 t1 t2 sz lm ts ph scn)/\(W<=200)
 ·
  obtain ⟨h1,h2⟩:=h0
  refine pc (fewB_1 W xs ys f0 f1 f2 t0 t1 t2 sz lm ts ph scn fl os brk ZZ ZZ ZZ ZZ ZZ ZZ ZZ ZZ ZZ ZZ ZZ ZZ om ZZ ZZ ZZ ZZ om ZZ ZZ ZZ) ?_
  have h3:16<=W/\W<=4096/\(xs.length:Int)=W/\(ys.length:Int)=W:=‹RGT W xs ys f0 f1 f2 t0 t1 t2 sz lm ts ph scn›.1
  have h4:0<=f0/\f0<=1/\0<=f1/\f1<=f2/\f2=W:=‹RGT W xs ys f0 f1 f2 t0 t1 t2 sz lm ts ph scn›.2.1
  have h5:0<=t0/\t0<=1/\0<=t1/\t1<=t2/\t2=W/\f0≠t0:=‹RGT W xs ys f0 f1 f2 t0 t1 t2 sz lm ts ph scn›.2.2.1
  have h6:0<=sz/\sz<=4096/\1<=lm/\lm<=64:=‹RGT W xs ys f0 f1 f2 t0 t1 t2 sz lm ts ph scn›.2.2.2.1
  have h7:Bfs ts f1:=‹RGT W xs ys f0 f1 f2 t0 t1 t2 sz lm ts ph scn›.2.2.2.2.2.2
  have h8:1<=(ts.length:Int)/\(ts.length:Int)<=4:=‹RGT W xs ys f0 f1 f2 t0 t1 t2 sz lm ts ph scn›.2.2.2.2.1
  refine ka [] 1 2 [6,5,4,2,1] [0] []<|en<|an<|xw_seq<|xw_seq<|reg<|ka [(5,.bool (ph != 0))] 8 0 [24,5,4,2,1] [0] [tr,sf (ph != 0),tr]<|splitr 24 (x:=(ph != 0)) kr (fun h9=>?_) (fun h9=>?_)
  ·
   replace h9:ph≠0:=bne_iff_ne.1 h9
   exact ka [] 15 8 [39,5,4,2,1] [0] [tr,tr]<|en<|an<|ct<|kb [] 2 [4,5,2,1] [0] []<|xw_ret<|an_ret<|bs (.t) rfl
  ·
   replace h9:ph=0:=bne_eq_false_iff_eq.1 h9
   refine ka [] 2 8 [26,25,24,5,4,2,1] [0] [tr] ?_
   by_cases h10:(canB lm ph brk ts th)=false
   ·
    exact pc (acan_1 W xs ys f0 f1 f2 t0 t1 t2 sz lm ts ph scn fl os brk th ZZ ZZ ZZ ZZ ZZ ZZ ZZ ZZ ZZ ZZ ZZ ZZ om ZZ ZZ ZZ ZZ om ZZ ZZ ZZ)<|ka [] 12 11 [39,5,4,2,1] [0] [tr,tr]<|en<|an<|ct<|kb [] 2 [4,5,2,1] [0] []<|xw_ret<|an_ret<|bs (.t) rfl
   ·
    by_cases h11:(canB lm ph brk ts th)=true
    ·
     refine pc (acan_2 W xs ys f0 f1 f2 t0 t1 t2 sz lm ts ph scn fl os brk th ZZ ZZ ZZ ZZ ZZ ZZ ZZ ZZ ZZ ZZ ZZ ZZ om ZZ ZZ ZZ ZZ om ZZ ZZ ZZ) ?_
     have h12:0<=th/\th<(ts.length:Int):=(can_is ZZ).1
     have h13:brk=0:=(can_is ZZ).2.1
     have h14:0<((Th.pd (thA ts th)).length:Int)\/(((Th.pd (thA ts th)).length:Int)=0/\0<((Ea8 ts th).length:Int)/\ph≠2):=can_nx ZZ
     refine ka [(17,.agg (tc (thA ts th)))] 7 11 [34,30,5,4,2,1] [0] [tr,tr,⟨(0:Int)<=th/\th<((((List.map thS ts)).length:Nat):Int)/\((List.map thS ts))[(th:Int).toNat]? = some (Ea10 ts th),(ix_th om lw)⟩] ?_
     have h15:U64s (Th.st (thA ts th)):=(Ths.at rq _).1
     have h16:((Th.st (thA ts th)).length:Int) * 8<=140737488355000:=(Ths.at rq _).2.1
     have h17:(I6 (Th.b0 (thA ts th))):=(Ths.at rq _).2.2.1
     have h18:(I6 (Th.b1 (thA ts th))):=(Ths.at rq _).2.2.2.1
     have h19:Ents (Th.lg (thA ts th)):=(Ths.at rq _).2.2.2.2.1
     have h20:((Th.lg (thA ts th)).length:Int) * 16<=140737488355000:=(Ths.at rq _).2.2.2.2.2.1
     have h21:Ops (Ea8 ts th):=(Ths.at rq _).2.2.2.2.2.2.1
     have h22:((Ea8 ts th).length:Int) * 64<=140737488355000:=(Ths.at rq _).2.2.2.2.2.2.2.1
     have h23:Ents (Th.pd (thA ts th)):=(Ths.at rq _).2.2.2.2.2.2.2.2.1
     have h24:((Th.pd (thA ts th)).length:Int) * 16<=140737488355000:=(Ths.at rq _).2.2.2.2.2.2.2.2.2.1
     have h25:Anss (Ea9 ts th):=(Ths.at rq _).2.2.2.2.2.2.2.2.2.2.1
     have h26:((Ea9 ts th).length:Int) * 24<=140737488355000:=(Ths.at rq _).2.2.2.2.2.2.2.2.2.2.2
     refine ka [(20,.i (((Th.pd (thA ts th))).length:Int)),(21,.bool (decide (0<(((Th.pd (thA ts th))).length:Int))))] 5 18 [39,5,4,2,1] [0] [tr,l6 entS (Th.pd (thA ts th)),sf (decide (0<(((Th.pd (thA ts th))).length:Int))),tr]<|en<|an<|xcD (0<(((Th.pd (thA ts th))).length:Int)) (fun h27=>?_) (fun h27=>?_)
     ·
      exact kB [] 2 ⟨[(4,.t),(5,.t),(2,.p 0),(1,.i th)],[(Ea15 W xs ys f0 f1 f2 t0 t1 t2 sz lm ts ph scn fl os brk)],1⟩ []<|xw_ret<|an_ret<|bs (.t) rfl
     ·
      refine xw_skip<|an<|xw_seq ?_
      by_cases h28:(ofB W xs ys (Ea7 ts))=true
      ·
       refine sreg hmix [([(Ea15 W xs ys f0 f1 f2 t0 t1 t2 sz lm ts ph scn fl os brk)],1),([Ea12,(Ea15 W xs ys f0 f1 f2 t0 t1 t2 sz lm ts ph scn fl os brk)],2),([(Ea13 W xs ys ts),(Ea15 W xs ys f0 f1 f2 t0 t1 t2 sz lm ts ph scn fl os brk)],2)] [8,9] [(1,[0]),(3,[2]),(4,[0,1,2,3]),(5,[0,1,2,3,4]),(6,[0,1,2,3,4,5]),(7,[0,1,2,3,4,5]),(9,[0,1,2,3,4,5,6,8]),(10,[0,1,2,3,4,5,6,7,8,9])] kr kr kr kr kr<|ke [] 3 0 [tr,tr,sf (SV.agg (mm W xs ys)),tr,tr,sf (SV.agg (hp W xs ys f0 f1 f2 t0 t1 t2 sz lm ts ph scn fl os brk)),tr]<|sc (rrows W xs ys f0 f1 f2 t0 t1 t2 sz lm ts ph scn fl os brk ZZ ZZ ZZ ZZ ZZ ZZ ZZ ZZ ZZ ZZ ZZ ZZ om ZZ ZZ ZZ ZZ om ZZ) ?_
       have h29:RUs (Ea7 ts):=(rows_okx ts ZZ ZZ om).1
       have h30:((Ea7 ts).length:Int) * 24<=140737488355000:=(rows_okx ts ZZ ZZ om).2.1
       have h31:((Ea7 ts).flatten.length:Int) * 8<=140737488355000:=(rows_okx ts ZZ ZZ om).2.2
       refine sc (roff_1 W xs ys (Ea7 ts) om om om ZZ ZZ ZZ om om ZZ) ?_
       have h32:Nds (ofN W xs ys (Ea7 ts)):=(of_pre W xs ys (Ea7 ts) om ZZ ZZ ZZ ZZ).1
       have h33:((ofN W xs ys (Ea7 ts)).length:Int)<=8192:=(of_pre W xs ys (Ea7 ts) om ZZ ZZ ZZ ZZ).2.1
       have h34:RIs (ofS W xs ys (Ea7 ts)):=(of_pre W xs ys (Ea7 ts) om ZZ ZZ ZZ ZZ).2.2.1
       have h35:((ofS W xs ys (Ea7 ts)).length:Int)=(ts.length:Int):=(of_pre W xs ys (Ea7 ts) om ZZ ZZ ZZ ZZ).2.2.2.1.trans sq
       have h36:GOk (ofN W xs ys (Ea7 ts)) (ofS W xs ys (Ea7 ts)):=(of_pre W xs ys (Ea7 ts) om ZZ ZZ ZZ ZZ).2.2.2.2
       refine ke [] 6 5 [tr,tr,tr,tr,sf ([Ea12,(Ea15 W xs ys f0 f1 f2 t0 t1 t2 sz lm ts ph scn fl os brk)] : Mem),sf (2:Nat),tr,sf ([(Ea13 W xs ys ts),(Ea15 W xs ys f0 f1 f2 t0 t1 t2 sz lm ts ph scn fl os brk)] : Mem),sf (2:Nat),tr]<|sen<|an<|xw_seq<|reg<|kA [] 1 0 ⟨[(49,.agg (hp W xs ys f0 f1 f2 t0 t1 t2 sz lm ts ph scn fl os brk)),(8,.i 0),(7,.p 1),(5,.t),(4,.f),(2,.p 0),(1,.i th)],[(Ea13 W xs ys ts),(Ea15 W xs ys f0 f1 f2 t0 t1 t2 sz lm ts ph scn fl os brk)],2⟩ [tr]<|pcall (args:=[.agg (hp W xs ys f0 f1 f2 t0 t1 t2 sz lm ts ph scn fl os brk)]) (args':=[.agg (hp W xs ys f0 f1 f2 t0 t1 t2 sz lm ts ph scn fl os brk)]) (d:=(some 50)) kr (rfree W xs ys f0 f1 f2 t0 t1 t2 sz lm ts ph scn fl os brk ZZ ZZ ZZ ZZ ZZ ZZ ZZ ZZ ZZ ZZ ZZ ZZ om ZZ ZZ ZZ ZZ om ZZ ZZ ZZ ZZ ZZ om) [sm (W:Int),fi,sm ((m64 xs):List SV),fi,sm ((m64 ys):List SV),sm (f0:Int),sm (f1:Int),sm (f2:Int),sm (t0:Int),sm (t1:Int),sm (t2:Int),sm (sz:Int),sm (lm:Int),fi,sm ((List.map thS ts):List SV),sm (ph:Int),sm (scn:Int),sm (fl:Int),fi,sm ((List.map (SV.int .i64) os):List SV),sm (brk:Int)] kr ⟨rfl,id,rfl,id,rfl,rfl,rfl,rfl,rfl,rfl,rfl,rfl,rfl,id,rfl,rfl,rfl,rfl,id,rfl,rfl,trivial⟩ kr ?_
       rintro _ (⟨h37,rfl⟩ | rfl)
       ·
        refine ka [] 1 2 [9,8,7,5,4,2,1] [1,0] []<|en<|an<|xw_seq<|kb [(1,.f)] 6 [56,7,5,4,2,1] [1,0] [nF 0 0,tr]<|cf<|xw_skip<|an<|xw_seq<|reg<|ka [] 2 0 [59,58,7,5,4,2,1] [1,0] [tr]<|pcall (args:=[.agg (hp W xs ys f0 f1 f2 t0 t1 t2 sz lm ts ph scn fl os brk),.i th]) (args':=[.agg (hp W xs ys f0 f1 f2 t0 t1 t2 sz lm ts ph scn fl os brk),.i th]) (d:=(some 60)) kr (ado W xs ys f0 f1 f2 t0 t1 t2 sz lm ts ph scn fl os brk th ZZ ZZ ZZ ZZ ZZ ZZ ZZ ZZ ZZ ZZ ZZ ZZ om ZZ ZZ ZZ ZZ om ZZ ZZ ZZ ZZ om ZZ ZZ ZZ Eao) [sm (W:Int),fi,sm ((m64 xs):List SV),fi,sm ((m64 ys):List SV),sm (f0:Int),sm (f1:Int),sm (f2:Int),sm (t0:Int),sm (t1:Int),sm (t2:Int),sm (sz:Int),sm (lm:Int),fi,sm ((List.map thS ts):List SV),sm (ph:Int),sm (scn:Int),sm (fl:Int),fi,sm ((List.map (SV.int .i64) os):List SV),sm (brk:Int),sm (th:Int)] kr ⟨rfl,id,rfl,id,rfl,rfl,rfl,rfl,rfl,rfl,rfl,rfl,rfl,id,rfl,rfl,rfl,rfl,id,rfl,rfl,rfl,trivial⟩ kr ?_
        rintro _ (⟨X138,Y139,F140,st141,p142,q143,pd144,e145,v146,yes147,wt148,h49,h50,h51,rfl⟩ | ⟨X138,Y139,F140,st141,p142,q143,pd144,e145,v146,yes147,wt148,h49,h50,h51,rfl⟩)
        ·
         have h52:(X138.length:Int)=W:=h49.1.1
         have h53:(Y139.length:Int)=W:=h49.1.2.1
         have h54:U64s X138:=h49.1.2.2.1
         have h55:U64s Y139:=h49.1.2.2.2
         have h56:f1<=F140/\F140<=f2:=h49.2.1
         have h57:U64s st141:=h49.2.2.1.1
         have h58:(st141.length:Int) * 8<=140737488355000:=h49.2.2.1.2
         have h59:(p142=0/\q143=0)\/(0<=p142/\p142<=q143/\q143<=F140):=h49.2.2.2.1
         have h60:Ents pd144:=h49.2.2.2.2.1.1
         have h61:(pd144.length:Int)<=1:=h49.2.2.2.2.1.2
         have h62:0<=e145/\e145<=100:=h49.2.2.2.2.2.1.1
         have h63:U6 v146:=h49.2.2.2.2.2.1.2
         have h64:Ths (tW ts th st141 p142 q143 pd144 wt148):=(ths_set ZZ (th_work (Ths.at ZZ th) ZZ om om om ZZ om))
         have h65:((tW ts th st141 p142 q143 pd144 wt148).length:Int)=(ts.length:Int):=len_set
         have h66:((Th.dn (thA (tW ts th st141 p142 q143 pd144 wt148) th)).length:Int)=((Ea9 ts th).length:Int):=Eab1
         have h67:(Th.wt (thA (tW ts th st141 p142 q143 pd144 wt148) th))=true:=Eab1
         have h68:((Th.pd (thA (tW ts th st141 p142 q143 pd144 wt148) th)).length:Int)=((pd144).length:Int):=Eab1
         exact ka [] 2 3 [10,7,5,4,2,1] [2,1,0] [tr]<|en<|an<|xw_seq<|kb [(2,.i ((os).length:Int)),(5,.i ((os).length:Int)),(6,.t)] 7 [67,10,7,5,4,2,1] [2,1,0] [tr,l6 (SV.int .i64) os,tr,l6 (SV.int .i64) os,qT ((os).length:Int) ((os).length:Int)]<|ct<|kb [(4,.i (((tW ts th st141 p142 q143 pd144 wt148)).length:Int)),(7,.i ((ts).length:Int)),(8,.t)] 11 [4,10,7,5,2,1] [2,1,0] [tr,l6 thS (tW ts th st141 p142 q143 pd144 wt148),tr,l6 thS ts,qT (((tW ts th st141 p142 q143 pd144 wt148)).length:Int) ((ts).length:Int),tr]<|xw_ret<|an_ret<|bs (.t) rfl
        ·
         have h52:(X138.length:Int)=W:=h49.1.1
         have h53:(Y139.length:Int)=W:=h49.1.2.1
         have h54:U64s X138:=h49.1.2.2.1
         have h55:U64s Y139:=h49.1.2.2.2
         have h56:f1<=F140/\F140<=f2:=h49.2.1
         have h57:U64s st141:=h49.2.2.1.1
         have h58:(st141.length:Int) * 8<=140737488355000:=h49.2.2.1.2
         have h59:(p142=0/\q143=0)\/(0<=p142/\p142<=q143/\q143<=F140):=h49.2.2.2.1
         have h60:Ents pd144:=h49.2.2.2.2.1.1
         have h61:(pd144.length:Int)<=1:=h49.2.2.2.2.1.2
         have h62:0<=e145/\e145<=100:=h49.2.2.2.2.2.1.1
         have h63:U6 v146:=h49.2.2.2.2.2.1.2
         have h64:Ths (tD ts th st141 p142 q143 pd144 wt148 e145 v146 yes147):=(ths_set ZZ (th_done (Ths.at ZZ th) ZZ om om om ZZ om om om (thg_at ZZ th)))
         have h65:((tD ts th st141 p142 q143 pd144 wt148 e145 v146 yes147).length:Int)=(ts.length:Int):=len_set
         have h66:((Ea6 ts th st141 p142 q143 pd144 wt148 e145 v146 yes147).length:Int)=((Ea9 ts th).length:Int) + 1:=(by (try simp only [Ea7,Ea1,Ea2,Ea3,Ea6,Ea4,Ea5,Ea8,Ea9,Ea10,Ea11,Ea12,Ea13,Ea14,Ea15,K1,K2,K8,K3,K4,K5,K6,K7,M13,M21,M19,M22,M14,M15,M16,M17,M18,M20,M23,M24,P1,P7,P8,P2,P3,P9,P10,P4,P12,P11,P5,P6,N4,O1,G1,G2,G3,G4,J1,J2,J3,J4,J5,J6,J7,J8,J9,E1,E3,E4,E5,E6,E7,E8,B3,B4,B5,B6,C3,C4,C5,C6,D1,D2,D3,D4,D5,D6,D7,D8,A4,A5,A6,A7,A8,A9,A10,A11,L12,L4,L10,L5,L2,L3,L6,L7,L8,L9,L11,L13,L14,L15,Ba1,Ba2,Ba3,Ba4,Ba5,Ba6,Ba7,Ba8,Ba9,Ba10,Aa19,Aa23,Aa20,Aa25,Aa30,Aa22,Aa21,Aa28,Aa24,Aa26,Aa27,Aa29,Aa31,Aa32,Aa33,Aa34,Aa35,Aa36,Z1,Z2,Z3,Z4,Z5,Z6,Z7,Q1,Q2,Q3,Q4,Da1,Da2,Da3,Da4,Ca6,Ca1,Ca2,Ca3,Ca4,Ca17,Ca5,Ca7,Ca8,Ca9,Ca10,Ca11,Ca16,Ca12,Ca13,Ca14,Ca15,Ca18,Ca19,V14,V18,V1,V2,V3,V4,V23,V5,V6,V15,V35,V16,V20,V7,V8,V9,V29,V10,V11,V12,V13,V17,V19,V21,V22,V24,V25,V26,V27,V28,V30,V31,V32,V33,V34,V36,V37,R1,R4,T5,T13,T1,T2,T3,T4,T10,T6,T7,T8,T9,T11,T25,T12,T14,T15,T16,T17,T18,T19,T20,T21,T22,T23,T24,T26,T27] at *);rw [th_set om om]; try first | assumption | (simp; done) | (simp; omega))
         have h67:(Th.wt (thA (tD ts th st141 p142 q143 pd144 wt148 e145 v146 yes147) th))=false:=Eab1
         have h68:((os++[th]).length:Int)=(os.length:Int) + 1:=len_app1
         have h69:I64s (os++[th]):=i64_app1 ZZ om
         have h70:Thq (tD ts th st141 p142 q143 pd144 wt148 e145 v146 yes147):=thq_set ZZ (jx_len h50 ZZ (thq_at ZZ))
         have h71:RUs (List.map Th.st (tD ts th st141 p142 q143 pd144 wt148 e145 v146 yes147)):=(rows_okx (tD ts th st141 p142 q143 pd144 wt148 e145 v146 yes147) ZZ ZZ om).1
         have h72:(AGK W X138 Y139 (List.map Th.st (tD ts th st141 p142 q143 pd144 wt148 e145 v146 yes147)) (Ea1 W xs ys ts th))/\e145=(GR.e (Ea1 W xs ys ts th))/\v146=(GR.v (Ea1 W xs ys ts th))/\yes147=(GR.y (Ea1 W xs ys ts th)):=ag_step om om om om ZZ ZZ h50 ZZ om om ZZ ZZ rfl ZZ
         have h73:(AnsV.e (ansA (Ea6 ts th st141 p142 q143 pd144 wt148 e145 v146 yes147) (((Ea6 ts th st141 p142 q143 pd144 wt148 e145 v146 yes147).length:Int) - 1)))=(GR.e (Ea1 W xs ys ts th)):=(ans_e om om).trans h72.2.1
         have h74:(AnsV.v (ansA (Ea6 ts th st141 p142 q143 pd144 wt148 e145 v146 yes147) (((Ea6 ts th st141 p142 q143 pd144 wt148 e145 v146 yes147).length:Int) - 1)))=(GR.v (Ea1 W xs ys ts th)):=(ans_v om om).trans h72.2.2.1
         have h75:(AnsV.y (ansA (Ea6 ts th st141 p142 q143 pd144 wt148 e145 v146 yes147) (((Ea6 ts th st141 p142 q143 pd144 wt148 e145 v146 yes147).length:Int) - 1)))=(GR.y (Ea1 W xs ys ts th)):=(ans_y om om).trans h72.2.2.2
         have h76:(ofB W X138 Y139 (List.map Th.st (tD ts th st141 p142 q143 pd144 wt148 e145 v146 yes147)))=true:=h72.1.b
         have h77:(ofN W X138 Y139 (List.map Th.st (tD ts th st141 p142 q143 pd144 wt148 e145 v146 yes147)))=(caN (GR.ns (Ea1 W xs ys ts th)) (GR.ss (Ea1 W xs ys ts th))):=h72.1.n
         have h78:(ofS W X138 Y139 (List.map Th.st (tD ts th st141 p142 q143 pd144 wt148 e145 v146 yes147)))=(caS (GR.ns (Ea1 W xs ys ts th)) (GR.ss (Ea1 W xs ys ts th))):=h72.1.s
         have h79:Nds (GR.ns (Ea1 W xs ys ts th)):=h72.1.nd
         have h80:((GR.ns (Ea1 W xs ys ts th)).length:Int)<=8192:=h72.1.len
         have h81:RIs (GR.ss (Ea1 W xs ys ts th)):=h72.1.ri
         have h82:((GR.ss (Ea1 W xs ys ts th)).length:Int)=((List.map Th.st (tD ts th st141 p142 q143 pd144 wt148 e145 v146 yes147)).length:Int):=h72.1.sl
         have h83:GOk (GR.ns (Ea1 W xs ys ts th)) (GR.ss (Ea1 W xs ys ts th)):=h72.1.ok
         have h84:Nds (ofN W X138 Y139 (List.map Th.st (tD ts th st141 p142 q143 pd144 wt148 e145 v146 yes147))):=h72.1.p.1
         have h85:((ofN W X138 Y139 (List.map Th.st (tD ts th st141 p142 q143 pd144 wt148 e145 v146 yes147))).length:Int)<=8192:=h72.1.p.2.1
         have h86:RIs (ofS W X138 Y139 (List.map Th.st (tD ts th st141 p142 q143 pd144 wt148 e145 v146 yes147))):=h72.1.p.2.2.1
         have h87:((ofS W X138 Y139 (List.map Th.st (tD ts th st141 p142 q143 pd144 wt148 e145 v146 yes147))).length:Int)=((List.map Th.st (tD ts th st141 p142 q143 pd144 wt148 e145 v146 yes147)).length:Int):=h72.1.p.2.2.2.1
         refine ka [] 2 3 [10,7,5,4,2,1] [2,1,0] [tr]<|en<|an<|xw_seq<|kb [(2,.i (((os++[th])).length:Int)),(5,.i ((os).length:Int)),(6,.f)] 7 [67,10,7,5,4,2,1] [2,1,0] [tr,l6 (SV.int .i64) (os++[th]),tr,l6 (SV.int .i64) os,qF (((os++[th])).length:Int) ((os).length:Int)]<|cf<|xw_skip<|an<|xw_seq<|xw_seq<|dregk hmix kr<|kd [(2,.i (((tD ts th st141 p142 q143 pd144 wt148 e145 v146 yes147)).length:Int)),(5,.i ((ts).length:Int)),(6,.f),(11,.agg (tc (thA (tD ts th st141 p142 q143 pd144 wt148 e145 v146 yes147) th)))] 12 0 [tr,l6 thS (tD ts th st141 p142 q143 pd144 wt148 e145 v146 yes147),tr,l6 thS ts,nF (((tD ts th st141 p142 q143 pd144 wt148 e145 v146 yes147)).length:Int) ((ts).length:Int),tr,⟨(0:Int)<=th/\th<((((List.map thS (tD ts th st141 p142 q143 pd144 wt148 e145 v146 yes147))).length:Nat):Int)/\((List.map thS (tD ts th st141 p142 q143 pd144 wt148 e145 v146 yes147)))[(th:Int).toNat]? = some (.agg (tc (thA (tD ts th st141 p142 q143 pd144 wt148 e145 v146 yes147) th))),(ix_th om lw)⟩] ?_
         have h88:U64s (Th.st (thA (tD ts th st141 p142 q143 pd144 wt148 e145 v146 yes147) th)):=(Ths.at rq _).1
         have h89:((Th.st (thA (tD ts th st141 p142 q143 pd144 wt148 e145 v146 yes147) th)).length:Int) * 8<=140737488355000:=(Ths.at rq _).2.1
         have h90:(I6 (Th.b0 (thA (tD ts th st141 p142 q143 pd144 wt148 e145 v146 yes147) th))):=(Ths.at rq _).2.2.1
         have h91:(I6 (Th.b1 (thA (tD ts th st141 p142 q143 pd144 wt148 e145 v146 yes147) th))):=(Ths.at rq _).2.2.2.1
         have h92:Ents (Th.lg (thA (tD ts th st141 p142 q143 pd144 wt148 e145 v146 yes147) th)):=(Ths.at rq _).2.2.2.2.1
         have h93:((Th.lg (thA (tD ts th st141 p142 q143 pd144 wt148 e145 v146 yes147) th)).length:Int) * 16<=140737488355000:=(Ths.at rq _).2.2.2.2.2.1
         have h94:Ops (Th.lf (thA (tD ts th st141 p142 q143 pd144 wt148 e145 v146 yes147) th)):=(Ths.at rq _).2.2.2.2.2.2.1
         have h95:((Th.lf (thA (tD ts th st141 p142 q143 pd144 wt148 e145 v146 yes147) th)).length:Int) * 64<=140737488355000:=(Ths.at rq _).2.2.2.2.2.2.2.1
         have h96:Ents (Th.pd (thA (tD ts th st141 p142 q143 pd144 wt148 e145 v146 yes147) th)):=(Ths.at rq _).2.2.2.2.2.2.2.2.1
         have h97:((Th.pd (thA (tD ts th st141 p142 q143 pd144 wt148 e145 v146 yes147) th)).length:Int) * 16<=140737488355000:=(Ths.at rq _).2.2.2.2.2.2.2.2.2.1
         have h98:Anss (Ea6 ts th st141 p142 q143 pd144 wt148 e145 v146 yes147):=(Ths.at rq _).2.2.2.2.2.2.2.2.2.2.1
         have h99:((Ea6 ts th st141 p142 q143 pd144 wt148 e145 v146 yes147).length:Int) * 24<=140737488355000:=(Ths.at rq _).2.2.2.2.2.2.2.2.2.2.2
         refine kd [(14,.i (((Ea6 ts th st141 p142 q143 pd144 wt148 e145 v146 yes147)).length:Int)),(18,.agg (tc (thA ts th)))] 7 12 [tr,l6 ansS (Ea6 ts th st141 p142 q143 pd144 wt148 e145 v146 yes147),tr,⟨(0:Int)<=th/\th<((((List.map thS ts)).length:Nat):Int)/\((List.map thS ts))[(th:Int).toNat]? = some (Ea10 ts th),(ix_th om lw)⟩] ?_
         have h100:U64s (Th.st (thA ts th)):=(Ths.at rq _).1
         have h101:((Th.st (thA ts th)).length:Int) * 8<=140737488355000:=(Ths.at rq _).2.1
         have h102:(I6 (Th.b0 (thA ts th))):=(Ths.at rq _).2.2.1
         have h103:(I6 (Th.b1 (thA ts th))):=(Ths.at rq _).2.2.2.1
         have h104:Ents (Th.lg (thA ts th)):=(Ths.at rq _).2.2.2.2.1
         have h105:((Th.lg (thA ts th)).length:Int) * 16<=140737488355000:=(Ths.at rq _).2.2.2.2.2.1
         have h106:Ops (Ea8 ts th):=(Ths.at rq _).2.2.2.2.2.2.1
         have h107:((Ea8 ts th).length:Int) * 64<=140737488355000:=(Ths.at rq _).2.2.2.2.2.2.2.1
         have h108:Ents (Th.pd (thA ts th)):=(Ths.at rq _).2.2.2.2.2.2.2.2.1
         have h109:((Th.pd (thA ts th)).length:Int) * 16<=140737488355000:=(Ths.at rq _).2.2.2.2.2.2.2.2.2.1
         have h110:Anss (Ea9 ts th):=(Ths.at rq _).2.2.2.2.2.2.2.2.2.2.1
         have h111:((Ea9 ts th).length:Int) * 24<=140737488355000:=(Ths.at rq _).2.2.2.2.2.2.2.2.2.2.2
         refine kd [(21,.i (((Ea9 ts th)).length:Int)),(22,.i ((((Ea9 ts th)).length:Int) + 1)),(23,.f)] 6 19 [tr,l6 ansS (Ea9 ts th),w6 ((((Ea9 ts th)).length:Int) + 1),nF (((Ea6 ts th st141 p142 q143 pd144 wt148 e145 v146 yes147)).length:Int) ((((Ea9 ts th)).length:Int) + 1),tr]<|qen<|an<|cf<|xw_skip<|an<|xw_seq<|ureg hmix [3,4] [⟨[(2,.cells (hp W X138 Y139 f0 F140 f2 t0 t1 t2 sz lm (tD ts th st141 p142 q143 pd144 wt148 e145 v146 yes147) ph scn fl (os++[th]) brk) 32),(Ea13 W xs ys ts),(Ea15 W xs ys f0 f1 f2 t0 t1 t2 sz lm ts ph scn fl os brk)],[],[3,4]⟩,⟨[Ea14,(2,.cells (hp W X138 Y139 f0 F140 f2 t0 t1 t2 sz lm (tD ts th st141 p142 q143 pd144 wt148 e145 v146 yes147) ph scn fl (os++[th]) brk) 32),(Ea13 W xs ys ts),(Ea15 W xs ys f0 f1 f2 t0 t1 t2 sz lm ts ph scn fl os brk)],[14],[4]⟩,⟨[Ea11,(2,.cells (hp W X138 Y139 f0 F140 f2 t0 t1 t2 sz lm (tD ts th st141 p142 q143 pd144 wt148 e145 v146 yes147) ph scn fl (os++[th]) brk) 32),(Ea13 W xs ys ts),(Ea15 W xs ys f0 f1 f2 t0 t1 t2 sz lm ts ph scn fl os brk)],[15],[3]⟩,⟨[Ea11,Ea14,(2,.cells (hp W X138 Y139 f0 F140 f2 t0 t1 t2 sz lm (tD ts th st141 p142 q143 pd144 wt148 e145 v146 yes147) ph scn fl (os++[th]) brk) 32),(Ea13 W xs ys ts),(Ea15 W xs ys f0 f1 f2 t0 t1 t2 sz lm ts ph scn fl os brk)],[14,15],[]⟩,⟨[Ea11,(3,.cells (Ea3 W xs ys ts th) 46),(2,.cells (hp W X138 Y139 f0 F140 f2 t0 t1 t2 sz lm (tD ts th st141 p142 q143 pd144 wt148 e145 v146 yes147) ph scn fl (os++[th]) brk) 32),(Ea13 W xs ys ts),(Ea15 W xs ys f0 f1 f2 t0 t1 t2 sz lm ts ph scn fl os brk)],[14,15,16],[]⟩,⟨[(4,.cells (Ea5 W xs ys ts th) 54),(3,.cells (Ea3 W xs ys ts th) 46),(2,.cells (hp W X138 Y139 f0 F140 f2 t0 t1 t2 sz lm (tD ts th st141 p142 q143 pd144 wt148 e145 v146 yes147) ph scn fl (os++[th]) brk) 32),(Ea13 W xs ys ts),(Ea15 W xs ys f0 f1 f2 t0 t1 t2 sz lm ts ph scn fl os brk)],[14,15,16,17],[]⟩] [14,15,16,17] [(3,[2]),(5,[2,3,4]),(6,[2,3,4,5]),(7,[2,3,4,5,6]),(8,[2,3,4,5,6,7]),(9,[2,3,4,5,6,7,8]),(10,[0,1,2,3,4,5,6,7,8,9]),(11,[0,1,2,3,4,5,6,7,8,9,10]),(12,[0,1,2,3,4,5,6,7,8,9,10,11]),(13,[0,1,2,3,4,5,6,7,8,9,10,11]),(16,[0,1,2,3,4,5,6,7,8,9,10,11,12,14,15]),(17,[0,1,2,3,4,5,6,7,8,9,10,11,12,13,14,15,16])] 5 5 kr<|urun_ TT_ok [(5,.agg (tc (thA ts th)))] nk kr 6 0 [(109,.elt (Ea10 ts th)),(108,.i th),(107,(sT ts)),(106,.loc 0 11),(105,.i th),(104,.agg (Ea2 W xs ys ts)),(102,.f),(101,.f),(100,.i ((((Ea9 ts th)).length:Int) + 1)),(99,.i (((Ea9 ts th)).length:Int)),(98,(sA (Ea9 ts th))),(97,.elt (sA (Ea9 ts th))),(96,.elt (Ea10 ts th)),(95,.i th),(94,(sT ts)),(93,.loc 0 11),(92,.i (((Ea6 ts th st141 p142 q143 pd144 wt148 e145 v146 yes147)).length:Int)),(91,(sA (Ea6 ts th st141 p142 q143 pd144 wt148 e145 v146 yes147))),(90,.elt (sA (Ea6 ts th st141 p142 q143 pd144 wt148 e145 v146 yes147))),(89,.elt (.agg (tc (thA (tD ts th st141 p142 q143 pd144 wt148 e145 v146 yes147) th)))),(88,.i th),(87,(sT (tD ts th st141 p142 q143 pd144 wt148 e145 v146 yes147))),(86,.loc 2 11),(85,.f),(84,.f),(83,.i ((ts).length:Int)),(82,(sT ts)),(81,.loc 0 11),(80,.i (((tD ts th st141 p142 q143 pd144 wt148 e145 v146 yes147)).length:Int)),(79,(sT (tD ts th st141 p142 q143 pd144 wt148 e145 v146 yes147))),(78,.loc 2 11),(67,.f),(10,.p 2),(7,.p 1),(5,.t),(4,.f),(2,.p 0),(1,.i th)] [sm (SV.agg (Ea2 W xs ys ts)),True,sm (SV.agg (Ea2 W xs ys ts)),True,sm (SV.agg (Ea2 W xs ys ts)),True,True,sm (SV.int .i64 th),True,sm (SV.int .i64 th),True,sm (SV.int .i64 th),True,True,sm (SV.loc 0 11),True,sm (SV.loc 0 11),True,sm (SV.loc 0 11),True,True,((sT ts))=(sT ts),True,((sT ts))=(sT ts),True,((sT ts))=(sT ts),True,True,sm (SV.int .i64 th),True,sm (SV.int .i64 th),True,sm (SV.int .i64 th),True,True,sm (SV.elt (Ea10 ts th)),(0:Int)<=th/\th<((((List.map thS ts)).length:Nat):Int)/\((List.map thS ts))[(th:Int).toNat]? = some (Ea10 ts th),sm (SV.elt (Ea10 ts th)),(0:Int)<=th/\th<((((List.map thS ts)).length:Nat):Int)/\((List.map thS ts))[(th:Int).toNat]? = some (Ea10 ts th),sm (SV.elt (Ea10 ts th)),(0:Int)<=th/\th<((((List.map thS ts)).length:Nat):Int)/\((List.map thS ts))[(th:Int).toNat]? = some (Ea10 ts th),(0:Int)<=th/\th<((((List.map thS ts)).length:Nat):Int)/\((List.map thS ts))[(th:Int).toNat]? = some (Ea10 ts th)] kr ⟨rfl,trivial,rfl,trivial,rfl,trivial,trivial,rfl,trivial,rfl,trivial,rfl,trivial,trivial,rfl,trivial,rfl,trivial,rfl,trivial,trivial,rfl,trivial,rfl,trivial,rfl,trivial,trivial,rfl,trivial,rfl,trivial,rfl,trivial,trivial,rfl,(ix_th om lw),rfl,(ix_th om lw),rfl,(ix_th om lw),(ix_th om lw),trivial⟩ ?_
         have h112:U64s (Th.st (thA ts th)):=(Ths.at rq _).1
         have h113:((Th.st (thA ts th)).length:Int) * 8<=140737488355000:=(Ths.at rq _).2.1
         have h114:(I6 (Th.b0 (thA ts th))):=(Ths.at rq _).2.2.1
         have h115:(I6 (Th.b1 (thA ts th))):=(Ths.at rq _).2.2.2.1
         have h116:Ents (Th.lg (thA ts th)):=(Ths.at rq _).2.2.2.2.1
         have h117:((Th.lg (thA ts th)).length:Int) * 16<=140737488355000:=(Ths.at rq _).2.2.2.2.2.1
         have h118:Ops (Ea8 ts th):=(Ths.at rq _).2.2.2.2.2.2.1
         have h119:((Ea8 ts th).length:Int) * 64<=140737488355000:=(Ths.at rq _).2.2.2.2.2.2.2.1
         have h120:Ents (Th.pd (thA ts th)):=(Ths.at rq _).2.2.2.2.2.2.2.2.1
         have h121:((Th.pd (thA ts th)).length:Int) * 16<=140737488355000:=(Ths.at rq _).2.2.2.2.2.2.2.2.2.1
         have h122:Anss (Ea9 ts th):=(Ths.at rq _).2.2.2.2.2.2.2.2.2.2.1
         have h123:((Ea9 ts th).length:Int) * 24<=140737488355000:=(Ths.at rq _).2.2.2.2.2.2.2.2.2.2.2
         refine urun_ TT_ok [(8,.agg (oc (o0 ts th)))] nk kr 3 6 [(112,.elt (.agg (oc (o0 ts th)))),(111,(sO (Ea8 ts th))),(110,.elt (sO (Ea8 ts th))),(109,.elt (Ea10 ts th)),(108,.i th),(107,(sT ts)),(106,.loc 0 11),(105,.i th),(104,.agg (Ea2 W xs ys ts)),(102,.f),(101,.f),(100,.i ((((Ea9 ts th)).length:Int) + 1)),(99,.i (((Ea9 ts th)).length:Int)),(98,(sA (Ea9 ts th))),(97,.elt (sA (Ea9 ts th))),(96,.elt (Ea10 ts th)),(95,.i th),(94,(sT ts)),(93,.loc 0 11),(92,.i (((Ea6 ts th st141 p142 q143 pd144 wt148 e145 v146 yes147)).length:Int)),(91,(sA (Ea6 ts th st141 p142 q143 pd144 wt148 e145 v146 yes147))),(90,.elt (sA (Ea6 ts th st141 p142 q143 pd144 wt148 e145 v146 yes147))),(89,.elt (.agg (tc (thA (tD ts th st141 p142 q143 pd144 wt148 e145 v146 yes147) th)))),(88,.i th),(87,(sT (tD ts th st141 p142 q143 pd144 wt148 e145 v146 yes147))),(86,.loc 2 11),(85,.f),(84,.f),(83,.i ((ts).length:Int)),(82,(sT ts)),(81,.loc 0 11),(80,.i (((tD ts th st141 p142 q143 pd144 wt148 e145 v146 yes147)).length:Int)),(79,(sT (tD ts th st141 p142 q143 pd144 wt148 e145 v146 yes147))),(78,.loc 2 11),(67,.f),(10,.p 2),(7,.p 1),(5,.t),(4,.f),(2,.p 0),(1,.i th)] [sm (SV.elt (sO (Ea8 ts th))),True,sm (SV.elt (sO (Ea8 ts th))),True,sm (SV.elt (sO (Ea8 ts th))),True,True,((sO (Ea8 ts th)))=(sO (Ea8 ts th)),True,((sO (Ea8 ts th)))=(sO (Ea8 ts th)),True,((sO (Ea8 ts th)))=(sO (Ea8 ts th)),True,True,sm (SV.elt (.agg (oc (o0 ts th)))),(0:Int)<=0/\0<((((List.map opS (Ea8 ts th))).length:Nat):Int)/\((List.map opS (Ea8 ts th)))[(0:Int).toNat]? = some (.agg (oc (o0 ts th))),sm (SV.elt (.agg (oc (o0 ts th)))),(0:Int)<=0/\0<((((List.map opS (Ea8 ts th))).length:Nat):Int)/\((List.map opS (Ea8 ts th)))[(0:Int).toNat]? = some (.agg (oc (o0 ts th))),sm (SV.elt (.agg (oc (o0 ts th)))),(0:Int)<=0/\0<((((List.map opS (Ea8 ts th))).length:Nat):Int)/\((List.map opS (Ea8 ts th)))[(0:Int).toNat]? = some (.agg (oc (o0 ts th))),(0:Int)<=0/\0<((((List.map opS (Ea8 ts th))).length:Nat):Int)/\((List.map opS (Ea8 ts th)))[(0:Int).toNat]? = some (.agg (oc (o0 ts th)))] kr ⟨rfl,trivial,rfl,trivial,rfl,trivial,trivial,rfl,trivial,rfl,trivial,rfl,trivial,trivial,rfl,(ix_op om lw),rfl,(ix_op om lw),rfl,(ix_op om lw),(ix_op om lw),trivial⟩ ?_
         have h124:(I6 (OpV.k (o0 ts th))):=(Ops.at rq _).1
         have h125:(I6 (OpV.h (o0 ts th))):=(Ops.at rq _).2.1
         have h126:(I6 (OpV.i (o0 ts th))):=(Ops.at rq _).2.2.1
         have h127:(I6 (OpV.j (o0 ts th))):=(Ops.at rq _).2.2.2.1
         have h128:(U6 (OpV.v (o0 ts th))):=(Ops.at rq _).2.2.2.2.1
         have h129:(I6 (OpV.t (o0 ts th))):=(Ops.at rq _).2.2.2.2.2.1
         have h130:(I6 (OpV.l (o0 ts th))):=(Ops.at rq _).2.2.2.2.2.2.1
         have h131:(U6 (OpV.m (o0 ts th))):=(Ops.at rq _).2.2.2.2.2.2.2
         refine urun_ TT_ok [] nk kr 1 9 [(113,.agg (oc (o0 ts th))),(112,.elt (.agg (oc (o0 ts th)))),(111,(sO (Ea8 ts th))),(110,.elt (sO (Ea8 ts th))),(109,.elt (Ea10 ts th)),(108,.i th),(107,(sT ts)),(106,.loc 0 11),(105,.i th),(104,.agg (Ea2 W xs ys ts)),(102,.f),(101,.f),(100,.i ((((Ea9 ts th)).length:Int) + 1)),(99,.i (((Ea9 ts th)).length:Int)),(98,(sA (Ea9 ts th))),(97,.elt (sA (Ea9 ts th))),(96,.elt (Ea10 ts th)),(95,.i th),(94,(sT ts)),(93,.loc 0 11),(92,.i (((Ea6 ts th st141 p142 q143 pd144 wt148 e145 v146 yes147)).length:Int)),(91,(sA (Ea6 ts th st141 p142 q143 pd144 wt148 e145 v146 yes147))),(90,.elt (sA (Ea6 ts th st141 p142 q143 pd144 wt148 e145 v146 yes147))),(89,.elt (.agg (tc (thA (tD ts th st141 p142 q143 pd144 wt148 e145 v146 yes147) th)))),(88,.i th),(87,(sT (tD ts th st141 p142 q143 pd144 wt148 e145 v146 yes147))),(86,.loc 2 11),(85,.f),(84,.f),(83,.i ((ts).length:Int)),(82,(sT ts)),(81,.loc 0 11),(80,.i (((tD ts th st141 p142 q143 pd144 wt148 e145 v146 yes147)).length:Int)),(79,(sT (tD ts th st141 p142 q143 pd144 wt148 e145 v146 yes147))),(78,.loc 2 11),(67,.f),(10,.p 2),(7,.p 1),(5,.t),(4,.f),(2,.p 0),(1,.i th)] [sm (SV.agg (oc (o0 ts th))),True,sm (SV.agg (oc (o0 ts th))),True,sm (SV.agg (oc (o0 ts th))),True,True] kr ⟨rfl,trivial,rfl,trivial,rfl,trivial,trivial,trivial⟩<|uc (gstep (ofN W xs ys (Ea7 ts)) (ofS W xs ys (Ea7 ts)) th (OpV.k (o0 ts th)) (OpV.h (o0 ts th)) (OpV.i (o0 ts th)) (OpV.j (o0 ts th)) (OpV.v (o0 ts th)) (OpV.t (o0 ts th)) (OpV.l (o0 ts th)) (OpV.m (o0 ts th)) ZZ om ZZ om ZZ om ZZ ZZ ZZ ZZ ZZ ZZ ZZ ZZ)<|urun_ TT_ok [(14,.p 3),(15,.p 4)] nk kr 7 11 [(12,.p 4),(11,.p 3),(116,.agg (Ea5 W xs ys ts th)),(115,.agg (Ea3 W xs ys ts th)),(103,.tup [.agg (Ea3 W xs ys ts th),.agg (Ea5 W xs ys ts th)]),(114,.tup [.agg (Ea3 W xs ys ts th),.agg (Ea5 W xs ys ts th)]),(113,.agg (oc (o0 ts th))),(112,.elt (.agg (oc (o0 ts th)))),(111,(sO (Ea8 ts th))),(110,.elt (sO (Ea8 ts th))),(109,.elt (Ea10 ts th)),(108,.i th),(107,(sT ts)),(106,.loc 0 11),(105,.i th),(104,.agg (Ea2 W xs ys ts)),(102,.f),(101,.f),(100,.i ((((Ea9 ts th)).length:Int) + 1)),(99,.i (((Ea9 ts th)).length:Int)),(98,(sA (Ea9 ts th))),(97,.elt (sA (Ea9 ts th))),(96,.elt (Ea10 ts th)),(95,.i th),(94,(sT ts)),(93,.loc 0 11),(92,.i (((Ea6 ts th st141 p142 q143 pd144 wt148 e145 v146 yes147)).length:Int)),(91,(sA (Ea6 ts th st141 p142 q143 pd144 wt148 e145 v146 yes147))),(90,.elt (sA (Ea6 ts th st141 p142 q143 pd144 wt148 e145 v146 yes147))),(89,.elt (.agg (tc (thA (tD ts th st141 p142 q143 pd144 wt148 e145 v146 yes147) th)))),(88,.i th),(87,(sT (tD ts th st141 p142 q143 pd144 wt148 e145 v146 yes147))),(86,.loc 2 11),(85,.f),(84,.f),(83,.i ((ts).length:Int)),(82,(sT ts)),(81,.loc 0 11),(80,.i (((tD ts th st141 p142 q143 pd144 wt148 e145 v146 yes147)).length:Int)),(79,(sT (tD ts th st141 p142 q143 pd144 wt148 e145 v146 yes147))),(78,.loc 2 11),(67,.f),(10,.p 2),(7,.p 1),(5,.t),(4,.f),(2,.p 0),(1,.i th)] [sm (SV.tup [.agg (Ea3 W xs ys ts th),.agg (Ea5 W xs ys ts th)]),True,sm (SV.tup [.agg (Ea3 W xs ys ts th),.agg (Ea5 W xs ys ts th)]),True,sm (SV.tup [.agg (Ea3 W xs ys ts th),.agg (Ea5 W xs ys ts th)]),True,True,sm (SV.agg (Ea3 W xs ys ts th)),True,sm (SV.agg (Ea3 W xs ys ts th)),True,sm (SV.agg (Ea3 W xs ys ts th)),True,True,sm (SV.agg (Ea5 W xs ys ts th)),True,sm (SV.agg (Ea5 W xs ys ts th)),True,sm (SV.agg (Ea5 W xs ys ts th)),True,sm (SV.agg (Ea5 W xs ys ts th)),True,True,sm (SV.loc 3 0),sm ([Ea14,(2,.cells (hp W X138 Y139 f0 F140 f2 t0 t1 t2 sz lm (tD ts th st141 p142 q143 pd144 wt148 e145 v146 yes147) ph scn fl (os++[th]) brk) 32),(Ea13 W xs ys ts),(Ea15 W xs ys f0 f1 f2 t0 t1 t2 sz lm ts ph scn fl os brk)] : Mem),sm ([Ea11,Ea14,(2,.cells (hp W X138 Y139 f0 F140 f2 t0 t1 t2 sz lm (tD ts th st141 p142 q143 pd144 wt148 e145 v146 yes147) ph scn fl (os++[th]) brk) 32),(Ea13 W xs ys ts),(Ea15 W xs ys f0 f1 f2 t0 t1 t2 sz lm ts ph scn fl os brk)] : Mem),sm (SV.loc 4 0),sm ([Ea11,(2,.cells (hp W X138 Y139 f0 F140 f2 t0 t1 t2 sz lm (tD ts th st141 p142 q143 pd144 wt148 e145 v146 yes147) ph scn fl (os++[th]) brk) 32),(Ea13 W xs ys ts),(Ea15 W xs ys f0 f1 f2 t0 t1 t2 sz lm ts ph scn fl os brk)] : Mem),sm ([Ea11,Ea14,(2,.cells (hp W X138 Y139 f0 F140 f2 t0 t1 t2 sz lm (tD ts th st141 p142 q143 pd144 wt148 e145 v146 yes147) ph scn fl (os++[th]) brk) 32),(Ea13 W xs ys ts),(Ea15 W xs ys f0 f1 f2 t0 t1 t2 sz lm ts ph scn fl os brk)] : Mem),True,sm ([Ea11,(3,.cells (Ea3 W xs ys ts th) 46),(2,.cells (hp W X138 Y139 f0 F140 f2 t0 t1 t2 sz lm (tD ts th st141 p142 q143 pd144 wt148 e145 v146 yes147) ph scn fl (os++[th]) brk) 32),(Ea13 W xs ys ts),(Ea15 W xs ys f0 f1 f2 t0 t1 t2 sz lm ts ph scn fl os brk)] : Mem),True,sm ([(4,.cells (Ea5 W xs ys ts th) 54),(3,.cells (Ea3 W xs ys ts th) 46),(2,.cells (hp W X138 Y139 f0 F140 f2 t0 t1 t2 sz lm (tD ts th st141 p142 q143 pd144 wt148 e145 v146 yes147) ph scn fl (os++[th]) brk) 32),(Ea13 W xs ys ts),(Ea15 W xs ys f0 f1 f2 t0 t1 t2 sz lm ts ph scn fl os brk)] : Mem)] kr ⟨rfl,trivial,rfl,trivial,rfl,trivial,trivial,rfl,trivial,rfl,trivial,rfl,trivial,trivial,rfl,trivial,rfl,trivial,rfl,trivial,rfl,trivial,trivial,rfl,rfl,rfl,rfl,rfl,rfl,trivial,rfl,trivial,rfl,trivial⟩<|uend<|an<|xw_seq<|reg<|kA [(3,.agg (tc (thA (tD ts th st141 p142 q143 pd144 wt148 e145 v146 yes147) th)))] 4 0 ⟨[(120,.elt (.agg (tc (thA (tD ts th st141 p142 q143 pd144 wt148 e145 v146 yes147) th)))),(12,.p 4),(11,.p 3),(10,.p 2),(5,.t),(4,.f)],[(4,.cells (Ea5 W xs ys ts th) 54),(3,.cells (Ea3 W xs ys ts th) 46),(2,.cells (hp W X138 Y139 f0 F140 f2 t0 t1 t2 sz lm (tD ts th st141 p142 q143 pd144 wt148 e145 v146 yes147) ph scn fl (os++[th]) brk) 32)],5⟩ [tr,⟨(0:Int)<=th/\th<((((List.map thS (tD ts th st141 p142 q143 pd144 wt148 e145 v146 yes147))).length:Nat):Int)/\((List.map thS (tD ts th st141 p142 q143 pd144 wt148 e145 v146 yes147)))[(th:Int).toNat]? = some (.agg (tc (thA (tD ts th st141 p142 q143 pd144 wt148 e145 v146 yes147) th))),(ix_th om lw)⟩] ?_
         have h132:U64s (Th.st (thA (tD ts th st141 p142 q143 pd144 wt148 e145 v146 yes147) th)):=(Ths.at rq _).1
         have h133:((Th.st (thA (tD ts th st141 p142 q143 pd144 wt148 e145 v146 yes147) th)).length:Int) * 8<=140737488355000:=(Ths.at rq _).2.1
         have h134:(I6 (Th.b0 (thA (tD ts th st141 p142 q143 pd144 wt148 e145 v146 yes147) th))):=(Ths.at rq _).2.2.1
         have h135:(I6 (Th.b1 (thA (tD ts th st141 p142 q143 pd144 wt148 e145 v146 yes147) th))):=(Ths.at rq _).2.2.2.1
         have h136:Ents (Th.lg (thA (tD ts th st141 p142 q143 pd144 wt148 e145 v146 yes147) th)):=(Ths.at rq _).2.2.2.2.1
         have h137:((Th.lg (thA (tD ts th st141 p142 q143 pd144 wt148 e145 v146 yes147) th)).length:Int) * 16<=140737488355000:=(Ths.at rq _).2.2.2.2.2.1
         have h138:Ops (Th.lf (thA (tD ts th st141 p142 q143 pd144 wt148 e145 v146 yes147) th)):=(Ths.at rq _).2.2.2.2.2.2.1
         have h139:((Th.lf (thA (tD ts th st141 p142 q143 pd144 wt148 e145 v146 yes147) th)).length:Int) * 64<=140737488355000:=(Ths.at rq _).2.2.2.2.2.2.2.1
         have h140:Ents (Th.pd (thA (tD ts th st141 p142 q143 pd144 wt148 e145 v146 yes147) th)):=(Ths.at rq _).2.2.2.2.2.2.2.2.1
         have h141:((Th.pd (thA (tD ts th st141 p142 q143 pd144 wt148 e145 v146 yes147) th)).length:Int) * 16<=140737488355000:=(Ths.at rq _).2.2.2.2.2.2.2.2.2.1
         have h142:Anss (Ea6 ts th st141 p142 q143 pd144 wt148 e145 v146 yes147):=(Ths.at rq _).2.2.2.2.2.2.2.2.2.2.1
         have h143:((Ea6 ts th st141 p142 q143 pd144 wt148 e145 v146 yes147).length:Int) * 24<=140737488355000:=(Ths.at rq _).2.2.2.2.2.2.2.2.2.2.2
         refine ka [] 3 4 [13,12,11,10,5,4] [4,3,2] [tr]<|en<|an<|xw_seq<|dregk hmix kr<|kd [(4,.i (((Ea6 ts th st141 p142 q143 pd144 wt148 e145 v146 yes147)).length:Int)),(5,.i ((((Ea6 ts th st141 p142 q143 pd144 wt148 e145 v146 yes147)).length:Int) - 1)),(6,.agg [.i (AnsV.e (Ea4 ts th st141 p142 q143 pd144 wt148 e145 v146 yes147)),.u (AnsV.v (Ea4 ts th st141 p142 q143 pd144 wt148 e145 v146 yes147)),.bool (AnsV.y (Ea4 ts th st141 p142 q143 pd144 wt148 e145 v146 yes147))])] 7 0 [l6 ansS (Ea6 ts th st141 p142 q143 pd144 wt148 e145 v146 yes147),w6 ((((Ea6 ts th st141 p142 q143 pd144 wt148 e145 v146 yes147)).length:Int) - 1),⟨(0:Int)<=((((Ea6 ts th st141 p142 q143 pd144 wt148 e145 v146 yes147)).length:Int) - 1)/\((((Ea6 ts th st141 p142 q143 pd144 wt148 e145 v146 yes147)).length:Int) - 1)<((((List.map ansS (Ea6 ts th st141 p142 q143 pd144 wt148 e145 v146 yes147))).length:Nat):Int)/\((List.map ansS (Ea6 ts th st141 p142 q143 pd144 wt148 e145 v146 yes147)))[(((((Ea6 ts th st141 p142 q143 pd144 wt148 e145 v146 yes147)).length:Int) - 1):Int).toNat]? = some (.agg [.i (AnsV.e (Ea4 ts th st141 p142 q143 pd144 wt148 e145 v146 yes147)),.u (AnsV.v (Ea4 ts th st141 p142 q143 pd144 wt148 e145 v146 yes147)),.bool (AnsV.y (Ea4 ts th st141 p142 q143 pd144 wt148 e145 v146 yes147))]),(ix_ans om lw)⟩] ?_
         have h144:(I6 (AnsV.e (Ea4 ts th st141 p142 q143 pd144 wt148 e145 v146 yes147))):=(Anss.at rq _).1
         have h145:(U6 (AnsV.v (Ea4 ts th st141 p142 q143 pd144 wt148 e145 v146 yes147))):=(Anss.at rq _).2
         refine kd [(9,.t)] 8 7 [tr,tr,⟨(((AnsV.e (Ea4 ts th st141 p142 q143 pd144 wt148 e145 v146 yes147)) == (GR.e (Ea1 W xs ys ts th))) && (((AnsV.v (Ea4 ts th st141 p142 q143 pd144 wt148 e145 v146 yes147)) == (GR.v (Ea1 W xs ys ts th))) && (((AnsV.y (Ea4 ts th st141 p142 q143 pd144 wt148 e145 v146 yes147)) == (GR.y (Ea1 W xs ys ts th))) && true)))=true,(by first | (simp <;> omega) | (simp only [Bool.not_eq_eq_eq_not,Bool.not_true,Bool.not_false,Bool.and_eq_true,beq_iff_eq,and_true]; and_intros <;> first | omega | assumption))⟩,tr,tr,tr]<|pqcall (args:=[.agg (hp W X138 Y139 f0 F140 f2 t0 t1 t2 sz lm (tD ts th st141 p142 q143 pd144 wt148 e145 v146 yes147) ph scn fl (os++[th]) brk)]) (args':=[.agg (hp W X138 Y139 f0 F140 f2 t0 t1 t2 sz lm (tD ts th st141 p142 q143 pd144 wt148 e145 v146 yes147) ph scn fl (os++[th]) brk)]) (d:=(some 138)) (sv:=.sl false 1 (List.map rowU (List.map Th.st (tD ts th st141 p142 q143 pd144 wt148 e145 v146 yes147)))) kr (rrows W X138 Y139 f0 F140 f2 t0 t1 t2 sz lm (tD ts th st141 p142 q143 pd144 wt148 e145 v146 yes147) ph scn fl (os++[th]) brk ZZ ZZ ZZ ZZ om ZZ ZZ ZZ ZZ ZZ ZZ ZZ om ZZ ZZ ZZ ZZ om ZZ) [sm (W:Int),fi,sm ((m64 X138):List SV),fi,sm ((m64 Y139):List SV),sm (f0:Int),sm (F140:Int),sm (f2:Int),sm (t0:Int),sm (t1:Int),sm (t2:Int),sm (sz:Int),sm (lm:Int),fi,sm ((List.map thS (tD ts th st141 p142 q143 pd144 wt148 e145 v146 yes147)):List SV),sm (ph:Int),sm (scn:Int),sm (fl:Int),fi,sm ((List.map (SV.int .i64) (os++[th])):List SV),sm (brk:Int)] kr ⟨rfl,id,rfl,id,rfl,rfl,rfl,rfl,rfl,rfl,rfl,rfl,rfl,id,rfl,rfl,rfl,rfl,id,rfl,rfl,trivial⟩ kr ?_
         have h146:RUs (List.map Th.st (tD ts th st141 p142 q143 pd144 wt148 e145 v146 yes147)):=(rows_okx (tD ts th st141 p142 q143 pd144 wt148 e145 v146 yes147) ZZ ZZ om).1
         have h147:((List.map Th.st (tD ts th st141 p142 q143 pd144 wt148 e145 v146 yes147)).length:Int) * 24<=140737488355000:=(rows_okx (tD ts th st141 p142 q143 pd144 wt148 e145 v146 yes147) ZZ ZZ om).2.1
         have h148:((List.map Th.st (tD ts th st141 p142 q143 pd144 wt148 e145 v146 yes147)).flatten.length:Int) * 8<=140737488355000:=(rows_okx (tD ts th st141 p142 q143 pd144 wt148 e145 v146 yes147) ZZ ZZ om).2.2
         exact kd [] 1 16 [tr]<|qc (galike W X138 Y139 (List.map Th.st (tD ts th st141 p142 q143 pd144 wt148 e145 v146 yes147)) (GR.ns (Ea1 W xs ys ts th)) (GR.ss (Ea1 W xs ys ts th)) om ZZ ZZ ZZ ZZ ZZ om om ZZ om ZZ om ZZ ZZ ZZ ZZ ZZ ZZ om ZZ om)<|kd [] 2 18 [tr]<|qen<|an<|xw_ret<|bs (.t) rfl
       ·
        exact ka [] 1 2 [9,8,7,5,4,2,1] [1,0] []<|en<|an<|xw_seq<|kb [(1,.f)] 6 [56,7,5,4,2,1] [1,0] [nF 0 0,tr]<|ct<|kb [] 2 [4,7,5,2,1] [1,0] []<|xw_ret<|an_ret<|bs (.t) rfl
      ·
       refine sreg hmix [([(Ea15 W xs ys f0 f1 f2 t0 t1 t2 sz lm ts ph scn fl os brk)],1),([Ea12,(Ea15 W xs ys f0 f1 f2 t0 t1 t2 sz lm ts ph scn fl os brk)],2),([Ea12,(Ea15 W xs ys f0 f1 f2 t0 t1 t2 sz lm ts ph scn fl os brk)],2)] [8,9] [(1,[0]),(3,[2]),(4,[0,1,2,3]),(5,[0,1,2,3,4]),(6,[0,1,2,3,4,5]),(7,[0,1,2,3,4,5]),(9,[0,1,2,3,4,5,6,8]),(10,[0,1,2,3,4,5,6,7,8,9])] kr kr kr kr kr<|ke [] 3 0 [tr,tr,sf (SV.agg (mm W xs ys)),tr,tr,sf (SV.agg (hp W xs ys f0 f1 f2 t0 t1 t2 sz lm ts ph scn fl os brk)),tr]<|sc (rrows W xs ys f0 f1 f2 t0 t1 t2 sz lm ts ph scn fl os brk ZZ ZZ ZZ ZZ ZZ ZZ ZZ ZZ ZZ ZZ ZZ ZZ om ZZ ZZ ZZ ZZ om ZZ) ?_
       have h29:RUs (Ea7 ts):=(rows_okx ts ZZ ZZ om).1
       have h30:((Ea7 ts).length:Int) * 24<=140737488355000:=(rows_okx ts ZZ ZZ om).2.1
       have h31:((Ea7 ts).flatten.length:Int) * 8<=140737488355000:=(rows_okx ts ZZ ZZ om).2.2
       refine sc (roff_2 W xs ys (Ea7 ts) om om om ZZ ZZ ZZ om om ZZ)<|ke [] 6 5 [tr,tr,tr,tr,sf ([Ea12,(Ea15 W xs ys f0 f1 f2 t0 t1 t2 sz lm ts ph scn fl os brk)] : Mem),sf (2:Nat),tr,sf ([Ea12,(Ea15 W xs ys f0 f1 f2 t0 t1 t2 sz lm ts ph scn fl os brk)] : Mem),sf (2:Nat),tr]<|sen<|an<|xw_seq<|reg<|kA [] 1 0 ⟨[(49,.agg (hp W xs ys f0 f1 f2 t0 t1 t2 sz lm ts ph scn fl os brk)),(8,.i 10),(7,.p 1),(5,.t),(4,.f),(2,.p 0),(1,.i th)],[Ea12,(Ea15 W xs ys f0 f1 f2 t0 t1 t2 sz lm ts ph scn fl os brk)],2⟩ [tr]<|pcall (args:=[.agg (hp W xs ys f0 f1 f2 t0 t1 t2 sz lm ts ph scn fl os brk)]) (args':=[.agg (hp W xs ys f0 f1 f2 t0 t1 t2 sz lm ts ph scn fl os brk)]) (d:=(some 50)) kr (rfree W xs ys f0 f1 f2 t0 t1 t2 sz lm ts ph scn fl os brk ZZ ZZ ZZ ZZ ZZ ZZ ZZ ZZ ZZ ZZ ZZ ZZ om ZZ ZZ ZZ ZZ om ZZ ZZ ZZ ZZ ZZ om) [sm (W:Int),fi,sm ((m64 xs):List SV),fi,sm ((m64 ys):List SV),sm (f0:Int),sm (f1:Int),sm (f2:Int),sm (t0:Int),sm (t1:Int),sm (t2:Int),sm (sz:Int),sm (lm:Int),fi,sm ((List.map thS ts):List SV),sm (ph:Int),sm (scn:Int),sm (fl:Int),fi,sm ((List.map (SV.int .i64) os):List SV),sm (brk:Int)] kr ⟨rfl,id,rfl,id,rfl,rfl,rfl,rfl,rfl,rfl,rfl,rfl,rfl,id,rfl,rfl,rfl,rfl,id,rfl,rfl,trivial⟩ kr ?_
       rintro _ (⟨h32,rfl⟩ | rfl)
       ·
        exact ka [] 1 2 [9,8,7,5,4,2,1] [1,0] []<|en<|an<|xw_seq<|kb [(1,.t)] 6 [56,7,5,4,2,1] [1,0] [nT 10 0,tr]<|ct<|kb [] 2 [4,7,5,2,1] [1,0] []<|xw_ret<|an_ret<|bs (.t) rfl
       ·
        exact ka [] 1 2 [9,8,7,5,4,2,1] [1,0] []<|en<|an<|xw_seq<|kb [(1,.t)] 6 [56,7,5,4,2,1] [1,0] [nT 10 0,tr]<|ct<|kb [] 2 [4,7,5,2,1] [1,0] []<|xw_ret<|an_ret<|bs (.t) rfl
    ·
     exfalso; first | omega | (simp_all; done) | (simp_all; omega) | grind
 ·
  exact pc (fewB_2 W xs ys f0 f1 f2 t0 t1 t2 sz lm ts ph scn fl os brk ZZ ZZ ZZ ZZ ZZ ZZ ZZ ZZ ZZ ZZ ZZ ZZ om ZZ ZZ ZZ ZZ om ZZ ZZ)<|ka [] 1 2 [6,5,4,2,1] [0] []<|en<|an<|xw_seq<|kb [] 23 [39,5,4,2,1] [0] [tr,tr,tr]<|ct<|kb [] 2 [4,5,2,1] [0] []<|xw_ret<|an_ret<|bs (.t) rfl
end Go.Proofs.YtmmfpkkamgapkaaGreat.X
