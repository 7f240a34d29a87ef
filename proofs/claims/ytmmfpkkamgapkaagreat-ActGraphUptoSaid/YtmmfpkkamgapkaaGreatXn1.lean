/- Contracts of Go functions: what each returns,for every input that its premises name; no memory of the caller is touched. Printed by a program. -/
import Derived.Test.YtmmfpkkamgapkaaGreatXn7
import Derived.Test.YtmmfpkkamgapkaaGreatXu8
namespace Go.Proofs.YtmmfpkkamgapkaaGreat.X
open Go Go.RowKit
set_option linter.unusedVariables false
set_option linter.unusedSimpArgs false
abbrev K1:List Int:=List.replicate (Int.toNat 16) 0
abbrev K2(st17:List Int)(p18 q19:Int)(pd110:List Ent)(wt114:Bool):=thA (tW tsh 0 st17 p18 q19 pd110 wt114) 0
abbrev K8(ts:List Th)(i1:Int):=Th.pd (thA ts i1)
abbrev K3(ts:List Th)(i1:Int):List (Nat×SV):=[(29,.i (((K8 ts i1)).length:Int)),(30,.bool (decide (1<(((K8 ts i1)).length:Int))))]
abbrev K4:=List.map (SV.int .i64) []
abbrev K5:List SV:=[.agg (mr 16 K1 K1 [.i 0,.i 0,.i 16,.i 1,.i 0,.i 16,.i 0,.i 4,(sT tsh),.i 0,.i 0,.i 0,.sl false 1 K4,.i 0]),.i 0]
abbrev K6:List SV:=List.replicate (Int.toNat 16) (.u 0)
abbrev K7:List SV:=[.agg (mr 16 K1 K1 [.i 0,.i 0,.i 16,.i 1,.i 0,.i 16,.i 0,.i 4,(sT tsh),.i 0,.i 0,.i 0,.nils,.i 0]),.i 0]
theorem Ko{p:Prop}(h:p:=by first|omega|(simp only [K1,K2,K8,K3,K4,K5,K6,K7] at *;first|omega|assumption|(simp;done)|(simp;omega))):p:=h
theorem Kb4{p:Prop}(h:p:=by first | exact bfs_0 | exact bfs_next ZZ om om om om):p:=h
theorem Kb3{p:Prop}(h:p:=by first | rfl | omega | assumption | exact decide_eq_true om | exact decide_eq_false om | (intro hr; first | exact absurd hr.1 ZZ | (have:=hr.2; omega)) | (simp; omega)):p:=h
theorem Kb2{p:Prop}(h:p:=by first | omega | assumption | rfl | (rw [len_zx]; assumption) | (rw [len_zy]; assumption) | exact U64s.zx (by assumption) _ _ | exact U64s.zy (by assumption) _ _ | exact U64s.rep _ | decide | (simp; done) | (intro x hx; cases hx) | exact U64s.rep _):p:=h
theorem Kb1{p:Prop}(h:p:=by first | rfl | omega | exact decide_eq_true om | exact decide_eq_false om | (refine ⟨om,om,om,om,om,om,bfs_all ZZ om⟩) | (intro hr; obtain ⟨g1,g2,g3,g4,g5,g6,g7⟩:=hr; first | omega | (have g8:=g7.at om i1; omega))):p:=h
set_option maxHeartbeats 8000000 in
theorem Kcb3{p:Prop}(h:p:=by first | exact bfs_0 | exact bfs_next ZZ om om om Ko):p:=h
theorem Kcb2{p:Prop}(h:p:=by (try simp only [K1,K2,K4,K5,K6,K7] at *);rw [th_set om om]; try first | assumption | (simp; done) | (simp; omega)):p:=h
theorem Kcb1{p:Prop}(h:p:=by (try simp only [K8,K3] at *);first | rfl | omega | exact decide_eq_true Ko | exact decide_eq_false Ko | (refine ⟨Ko,Ko,Ko,Ko,Ko,Ko,bfs_all ZZ Ko⟩) | (intro hr; obtain ⟨g1,g2,g3,g4,g5,g6,g7⟩:=hr; first | omega | (have g8:=g7.at Ko i1; omega))):p:=h
set_option maxHeartbeats 8000000 in
theorem shown17  : Pub Tryz.prog 4 [] (fun rv=>rv = .t):=by
 refine pub_of TT_ok Tryz.func4 rfl (by decide) nk kr<|kb [] 1 [0] [] []<|xw_seq<|sreg hmix [([],0),([(0,.cells [.i 0,.nils,.nils] 25)],1),([(0,.cells (mm 16 K1 K1) 25)],1)] [4,5] [(2,[0,1]),(3,[0,1,2]),(5,[0,1,2,3,4])] kr kr kr kr kr<|ke [(0,.t)] 1 0 [⟨((16:Int)=16)/\(((0:Int)<=16)/\(((16:Int)<=1099511627776)/\(((8:Nat):Int) * 16<=140737488355328))),(by refine ⟨rfl,?_,?_,?_⟩ <;> omega)⟩,sf (SV.sl false 1 K6),⟨((16:Int)=16)/\(((0:Int)<=16)/\(((16:Int)<=1099511627776)/\(((8:Nat):Int) * 16<=140737488355328))),(by refine ⟨rfl,?_,?_,?_⟩ <;> omega)⟩] ?_
 refine ssets 4 (x:=false) (z:=1) (L:=K6) (L':=(m64 K1)) kr rep_map<|ke [(1,.t)] 1 1 [⟨((16:Int)=16)/\(((0:Int)<=16)/\(((16:Int)<=1099511627776)/\(((8:Nat):Int) * 16<=140737488355328))),(by refine ⟨rfl,?_,?_,?_⟩ <;> omega)⟩,sf (SV.sl false 1 K6),⟨((16:Int)=16)/\(((0:Int)<=16)/\(((16:Int)<=1099511627776)/\(((8:Nat):Int) * 16<=140737488355328))),(by refine ⟨rfl,?_,?_,?_⟩ <;> omega)⟩] ?_
 refine ssets 5 (x:=false) (z:=1) (L:=K6) (L':=(m64 K1)) kr rep_map<|ke [] 4 2 [tr,tr,tr,sf ([(0,.cells [.i 0,.nils,.nils] 25)] : Mem),sf (1:Nat),tr,sf ([(0,.cells (mm 16 K1 K1) 25)] : Mem),sf (1:Nat)]<|sen<|an<|xw_seq<|reg<|ka [(4,.t)] 6 0 [13,10,9,8,0] [] [tr]<|xo_le (s':=⟨[(13,.agg [.sl false 1 (m64 []),.i 0,.i 0,.sl false 2 (List.map entS []),.sl false 8 (List.map opS [(OpV.mk 11 0 0 0 0 0 0 0)]),.sl false 2 (List.map entS []),.f,.sl false 3 (List.map ansS [])]),(10,.agg [.i 1,.i 0,.i 16]),(9,.agg [.i 0,.i 0,.i 16]),(8,.agg (mm 16 K1 K1)),(0,.f)],[],1⟩) (le_of [] [((m64 []):List SV)=[],sm (0:Int),sm (0:Int),((List.map entS []):List SV)=[],fi,sm ((List.map opS [(OpV.mk 11 0 0 0 0 0 0 0)]):List SV),((List.map entS []):List SV)=[],sm false,((List.map ansS []):List SV)=[],sm (1:Int),sm (0:Int),sm (16:Int),sm (0:Int),sm (0:Int),sm (16:Int),sm (16:Int),fi,sm ((m64 K1):List SV),fi,sm ((m64 K1):List SV),sm false] kr ⟨rfl,rfl,rfl,rfl,id,rfl,rfl,rfl,rfl,rfl,rfl,rfl,rfl,rfl,rfl,rfl,id,rfl,id,rfl,rfl,trivial⟩)<|ka [(6,.t)] 4 6 [2,0] [1] [tr]<|en<|an<|xw_seq<|reg<|ka [] 1 0 [16,2,0] [1] [tr] ?_
 have h0:Ths tsh:=ths_sh
 have h1:Bfs tsh 0:=bfs_sh
 have h2:(canB 4 0 0 tsh 0)=true:=(by decide)
 have h3:((Th.pd (thA tsh 0)).length:Int)=0:=rfl
 refine pcall (args:=K7) (args':=K5) (d:=(some 17)) kr (ado 16 K1 K1 0 0 16 1 0 16 0 4 tsh 0 0 0 [] 0 0 om Kb2 Kb2 om om om om om om om om ZZ Kb2 om om om Kb2 Kb2 om om Kb2 ⟨om,om,om,om,rfl⟩ om ZZ rfl ZZ ZZ) [sm (16:Int),fi,sm ((m64 K1):List SV),fi,sm ((m64 K1):List SV),sm (0:Int),sm (0:Int),sm (16:Int),sm (1:Int),sm (0:Int),sm (16:Int),sm (0:Int),sm (4:Int),fi,sm ((List.map thS tsh):List SV),sm (0:Int),sm (0:Int),sm (0:Int),(K4:List SV)=[],sm (0:Int),sm (0:Int)] kr ⟨rfl,id,rfl,id,rfl,rfl,rfl,rfl,rfl,rfl,rfl,rfl,rfl,id,rfl,rfl,rfl,rfl,rfl,rfl,rfl,trivial⟩ kr ?_
 rintro _ (⟨X14,Y15,F16,st17,p18,q19,pd110,e111,v112,yes113,wt114,h15,h16,h17,rfl⟩ | ⟨X14,Y15,F16,st17,p18,q19,pd110,e111,v112,yes113,wt114,h15,h16,h17,rfl⟩)
 ·
  have h18:(tsh.length:Int)=1:=rfl
  have h19:(X14.length:Int)=16:=h15.1.1
  have h20:(Y15.length:Int)=16:=h15.1.2.1
  have h21:U64s X14:=h15.1.2.2.1
  have h22:U64s Y15:=h15.1.2.2.2
  have h23:0<=F16/\F16<=16:=h15.2.1
  have h24:U64s st17:=h15.2.2.1.1
  have h25:(st17.length:Int) * 8<=140737488355000:=h15.2.2.1.2
  have h26:(p18=0/\q19=0)\/(0<=p18/\p18<=q19/\q19<=F16):=h15.2.2.2.1
  have h27:Ents pd110:=h15.2.2.2.2.1.1
  have h28:(pd110.length:Int)<=1:=h15.2.2.2.2.1.2
  have h29:0<=e111/\e111<=100:=h15.2.2.2.2.2.1.1
  have h30:U6 v112:=h15.2.2.2.2.2.1.2
  have h31:Ths (tW tsh 0 st17 p18 q19 pd110 wt114):=(ths_set ZZ (th_work (Ths.at ZZ 0) ZZ om om om ZZ om))
  have h32:((tW tsh 0 st17 p18 q19 pd110 wt114).length:Int)=(tsh.length:Int):=len_set
  have h33:((Th.dn (K2 st17 p18 q19 pd110 wt114)).length:Int)=((Th.dn (thA tsh 0)).length:Int):=Kcb2
  have h34:(Th.wt (K2 st17 p18 q19 pd110 wt114))=true:=Kcb2
  have h35:((Th.pd (K2 st17 p18 q19 pd110 wt114)).length:Int)=((pd110).length:Int):=Kcb2
  have h36:((pd110).length:Int)=0:=(h15.2.2.2.2.2.2.1.resolve_left (by decide)).resolve_left (by decide) |>.2.2.2
  have h37:(canB 4 0 0 (tW tsh 0 st17 p18 q19 pd110 wt114) 0)=false:=can_w om rfl Ko ZZ
  refine ka [] 2 2 [3,2,0] [2,1] [tr]<|en<|an<|xw_seq<|reg<|ka [] 1 0 [18,3,0] [2] [tr]<|pcall1 (args:=K7) (args':=K5) (d:=(some 19)) (sv:=.t) kr (acan_2 16 K1 K1 0 0 16 1 0 16 0 4 tsh 0 0 0 [] 0 0 om Kb2 Kb2 om om om om om om om om ZZ om om om om Kb2 Kb2 om om ZZ) [sm (16:Int),fi,sm ((m64 K1):List SV),fi,sm ((m64 K1):List SV),sm (0:Int),sm (0:Int),sm (16:Int),sm (1:Int),sm (0:Int),sm (16:Int),sm (0:Int),sm (4:Int),fi,sm ((List.map thS tsh):List SV),sm (0:Int),sm (0:Int),sm (0:Int),(K4:List SV)=[],sm (0:Int),sm (0:Int)] kr ⟨rfl,id,rfl,id,rfl,rfl,rfl,rfl,rfl,rfl,rfl,rfl,rfl,id,rfl,rfl,rfl,rfl,rfl,rfl,rfl,trivial⟩ kr ?_
  have h38:(0:Int)<=0/\0<(tsh.length:Int):=(can_is ZZ).1
  have h39:(0:Int)=0:=(can_is ZZ).2.1
  have h40:0<((Th.pd (thA tsh 0)).length:Int)\/(((Th.pd (thA tsh 0)).length:Int)=0/\0<((Th.lf (thA tsh 0)).length:Int)/\(0:Int)≠2):=can_nx ZZ
  refine ka [] 2 2 [21,20,3,0] [2] [tr]<|pcall1 (args:=[.agg (mr 16 X14 Y15 [.i 0,.i F16,.i 16,.i 1,.i 0,.i 16,.i 0,.i 4,(sT (tW tsh 0 st17 p18 q19 pd110 wt114)),.i 0,.i 0,.i 0,.sl false 1 K4,.i 0]),.i 0]) (args':=[.agg (mr 16 X14 Y15 [.i 0,.i F16,.i 16,.i 1,.i 0,.i 16,.i 0,.i 4,(sT (tW tsh 0 st17 p18 q19 pd110 wt114)),.i 0,.i 0,.i 0,.sl false 1 K4,.i 0]),.i 0]) (d:=(some 22)) (sv:=.f) kr (acan_1 16 X14 Y15 0 F16 16 1 0 16 0 4 (tW tsh 0 st17 p18 q19 pd110 wt114) 0 0 0 [] 0 0 om ZZ ZZ om om om om om om om om ZZ om om om om Kb2 Kb2 om om ZZ) [sm (16:Int),fi,sm ((m64 X14):List SV),fi,sm ((m64 Y15):List SV),sm (0:Int),sm (F16:Int),sm (16:Int),sm (1:Int),sm (0:Int),sm (16:Int),sm (0:Int),sm (4:Int),fi,sm ((List.map thS (tW tsh 0 st17 p18 q19 pd110 wt114)):List SV),sm (0:Int),sm (0:Int),sm (0:Int),fi,sm (K4:List SV),sm (0:Int),sm (0:Int)] kr ⟨rfl,id,rfl,id,rfl,rfl,rfl,rfl,rfl,rfl,rfl,rfl,rfl,id,rfl,rfl,rfl,rfl,id,rfl,rfl,rfl,trivial⟩ kr<|ka [(10,.i (((tW tsh 0 st17 p18 q19 pd110 wt114)).length:Int)),(11,.t),(16,.agg (tc (K2 st17 p18 q19 pd110 wt114)))] 12 5 [34,31,0] [] [tr,tr,l6 thS (tW tsh 0 st17 p18 q19 pd110 wt114),qT (((tW tsh 0 st17 p18 q19 pd110 wt114)).length:Int) 1,tr,tr,⟨(0:Int)<=0/\0<((((List.map thS (tW tsh 0 st17 p18 q19 pd110 wt114))).length:Nat):Int)/\((List.map thS (tW tsh 0 st17 p18 q19 pd110 wt114)))[(0:Int).toNat]? = some (.agg (tc (K2 st17 p18 q19 pd110 wt114))),(ix_th om lw)⟩] ?_
  have h41:U64s (Th.st (K2 st17 p18 q19 pd110 wt114)):=(Ths.at rq _).1
  have h42:((Th.st (K2 st17 p18 q19 pd110 wt114)).length:Int) * 8<=140737488355000:=(Ths.at rq _).2.1
  have h43:(I6 (Th.b0 (K2 st17 p18 q19 pd110 wt114))):=(Ths.at rq _).2.2.1
  have h44:(I6 (Th.b1 (K2 st17 p18 q19 pd110 wt114))):=(Ths.at rq _).2.2.2.1
  have h45:Ents (Th.lg (K2 st17 p18 q19 pd110 wt114)):=(Ths.at rq _).2.2.2.2.1
  have h46:((Th.lg (K2 st17 p18 q19 pd110 wt114)).length:Int) * 16<=140737488355000:=(Ths.at rq _).2.2.2.2.2.1
  have h47:Ops (Th.lf (K2 st17 p18 q19 pd110 wt114)):=(Ths.at rq _).2.2.2.2.2.2.1
  have h48:((Th.lf (K2 st17 p18 q19 pd110 wt114)).length:Int) * 64<=140737488355000:=(Ths.at rq _).2.2.2.2.2.2.2.1
  have h49:Ents (Th.pd (K2 st17 p18 q19 pd110 wt114)):=(Ths.at rq _).2.2.2.2.2.2.2.2.1
  have h50:((Th.pd (K2 st17 p18 q19 pd110 wt114)).length:Int) * 16<=140737488355000:=(Ths.at rq _).2.2.2.2.2.2.2.2.2.1
  have h51:Anss (Th.dn (K2 st17 p18 q19 pd110 wt114)):=(Ths.at rq _).2.2.2.2.2.2.2.2.2.2.1
  have h52:((Th.dn (K2 st17 p18 q19 pd110 wt114)).length:Int) * 24<=140737488355000:=(Ths.at rq _).2.2.2.2.2.2.2.2.2.2.2
  exact ka [] 4 17 [0] [] [tr,tr]<|en<|an<|xw_ret<|br (.bool (Th.wt (K2 st17 p18 q19 pd110 wt114))) (.t) (wk_s [(0,⟨(Th.wt (K2 st17 p18 q19 pd110 wt114))=true,(by first | exact decide_eq_true om | exact decide_eq_false om | (simp; done) | (simp; omega) | (simp_all; done) | (simp_all; omega) | grind)⟩)]) rfl
 ·
  have h18:(0:Int)=1:=absurd (h15.2.2.2.2.2.2.2.2 (by decide)) (by rw [‹wt114=false›]; decide)
  exfalso; first | omega | (simp_all; done) | (simp_all; omega) | grind
set_option maxHeartbeats 8000000 in
set_option maxHeartbeats 8000000 in
theorem hrightB (W:Int)(xs ys:List Int)(f0 f1 f2 t0 t1 t2 sz lm:Int)(ts:List Th)(ph scn fl:Int)(os:List Int)(brk:Int)(hp0:I6 W)(hp1:U64s xs)(hp2:U64s ys)(hp3:I6 f0)(hp4:I6 f1)(hp5:I6 f2)(hp6:I6 t0)(hp7:I6 t1)(hp8:I6 t2)(hp9:I6 sz)(hp10:I6 lm)(hp11:Ths ts)(hp12:(ts.length:Int) * 144<=140737488355000)(hp13:I6 ph)(hp14:I6 scn)(hp15:I6 fl)(hp16:I64s os)(hp17:(os.length:Int) * 8<=140737488355000)(hp18:I6 brk):Pub Tryz.prog 13 [.agg (hp W xs ys f0 f1 f2 t0 t1 t2 sz lm ts ph scn fl os brk)] (fun rv=>((RGT W xs ys f0 f1 f2 t0 t1 t2 sz lm ts ph scn)/\rv = .t)\/((¬ (RGT W xs ys f0 f1 f2 t0 t1 t2 sz lm ts ph scn))/\rv = .f)):=by
 refine pub_of TT_ok Tryz.func13 rfl (by decide) nk kr<|kb [] 2 [2,1] [0] []<|xw_seq<|reg<|ka [] 2 0 [10,2,1] [0] [tr] ?_
 by_cases h0:16<=W/\W<=4096/\(xs.length:Int)=W/\(ys.length:Int)=W
 ·
  refine pc (rmright_1 W xs ys ZZ ZZ)<|ka [] 1 3 [3,2,1] [0] []<|en<|an<|xw_seq<|reg<|ka [] 2 0 [13,3,2,1] [0] [tr] ?_
  by_cases h1:(f0=0\/f0=1)/\0<=f1/\f1<=f2/\f2<=4096
  ·
   refine pc (rright_1 f0 f1 f2 ZZ)<|ka [] 1 3 [4,3,2,1] [0] []<|en<|an<|xw_seq<|reg<|ka [] 2 0 [16,4,3,2,1] [0] [tr] ?_
   by_cases h2:(t0=0\/t0=1)/\0<=t1/\t1<=t2/\t2<=4096
   ·
    refine pc (rright_1 t0 t1 t2 ZZ)<|ka [] 1 3 [5,4,3,2,1] [0] []<|en<|an<|xw_seq<|xw_seq<|reg<|ka [(17,.bool (f0 == t0))] 20 0 [37,2,1] [0] [tr,tr,tr,tr,sf (f0 == t0),tr]<|splitr 37 (x:=(f0 == t0)) kr (fun h3=>?_) (fun h3=>?_)
    ·
     replace h3:f0=t0:=eq_of_beq h3
     exact kA [] 17 20 ⟨[(54,.t),(2,.f),(1,.p 0)],[(0,.cells (hp W xs ys f0 f1 f2 t0 t1 t2 sz lm ts ph scn fl os brk) 32)],1⟩ [tr,tr]<|en<|an<|ct<|kb [] 1 [2,1] [0] []<|xw_ret<|an_ret<|bs (.f) (Or.inr <| ⟨Kb1,rfl⟩)
    ·
     replace h3:f0≠t0:=ne_of_beq_false h3
     refine kA [(26,.bool (f2 != W))] 9 20 ⟨[(46,.bool (f2 != W)),(2,.f),(1,.p 0)],[(0,.cells (hp W xs ys f0 f1 f2 t0 t1 t2 sz lm ts ph scn fl os brk) 32)],1⟩ [tr,tr,sf (f2 != W),tr]<|splitr 46 (x:=(f2 != W)) kr (fun h4=>?_) (fun h4=>?_)
     ·
      replace h4:f2≠W:=bne_iff_ne.1 h4
      exact ka [] 8 29 [54,2,1] [0] [tr]<|en<|an<|ct<|kb [] 1 [2,1] [0] []<|xw_ret<|an_ret<|bs (.f) (Or.inr <| ⟨Kb1,rfl⟩)
     ·
      replace h4:f2=W:=bne_eq_false_iff_eq.1 h4
      refine ka [(35,.bool (t2 != W))] 8 29 [54,2,1] [0] [tr,tr,sf (t2 != W),tr]<|en<|an<|xcN t2 W (fun h5=>?_) (fun h5=>?_)
      ·
       exact kb [] 1 [2,1] [0] []<|xw_ret<|an_ret<|bs (.f) (Or.inr <| ⟨Kb1,rfl⟩)
      ·
       refine xw_skip<|an<|xw_seq<|xw_seq<|reg<|ka [(2,.bool (decide (sz<0)))] 4 0 [58,2,1] [0] [tr,sf (decide (sz<0))]<|splitr 58 (x:=(decide (sz<0))) kr (fun h6=>?_) (fun h6=>?_)
       ·
        replace h6:sz<0:=of_decide_eq_true h6
        exact ka [] 26 4 [84,2,1] [0] [tr,tr,tr,tr,tr]<|en<|an<|ct<|kb [] 1 [2,1] [0] []<|xw_ret<|an_ret<|bs (.f) (Or.inr <| ⟨Kb1,rfl⟩)
       ·
        replace h6:¬ (sz<0):=of_decide_eq_false h6
        refine ka [(6,.bool (decide (4096<sz)))] 5 4 [63,2,1] [0] [tr,sf (decide (4096<sz)),tr]<|splitr 63 (x:=(decide (4096<sz))) kr (fun h7=>?_) (fun h7=>?_)
        ·
         replace h7:4096<sz:=of_decide_eq_true h7
         exact ka [] 21 9 [84,2,1] [0] [tr,tr,tr,tr]<|en<|an<|ct<|kb [] 1 [2,1] [0] []<|xw_ret<|an_ret<|bs (.f) (Or.inr <| ⟨Kb1,rfl⟩)
        ·
         replace h7:¬ (4096<sz):=of_decide_eq_false h7
         refine ka [(11,.bool (decide (lm<1)))] 5 9 [68,2,1] [0] [tr,sf (decide (lm<1)),tr]<|splitr 68 (x:=(decide (lm<1))) kr (fun h8=>?_) (fun h8=>?_)
         ·
          replace h8:lm<1:=of_decide_eq_true h8
          exact ka [] 16 14 [84,2,1] [0] [tr,tr,tr]<|en<|an<|ct<|kb [] 1 [2,1] [0] []<|xw_ret<|an_ret<|bs (.f) (Or.inr <| ⟨Kb1,rfl⟩)
         ·
          replace h8:¬ (lm<1):=of_decide_eq_false h8
          refine ka [(16,.bool (decide (64<lm)))] 5 14 [73,2,1] [0] [tr,sf (decide (64<lm)),tr]<|splitr 73 (x:=(decide (64<lm))) kr (fun h9=>?_) (fun h9=>?_)
          ·
           replace h9:64<lm:=of_decide_eq_true h9
           exact ka [] 11 19 [84,2,1] [0] [tr,tr]<|en<|an<|ct<|kb [] 1 [2,1] [0] []<|xw_ret<|an_ret<|bs (.f) (Or.inr <| ⟨Kb1,rfl⟩)
          ·
           replace h9:¬ (64<lm):=of_decide_eq_false h9
           refine ka [(21,.i ((ts).length:Int)),(22,.bool (decide (((ts).length:Int)<1)))] 6 19 [79,2,1] [0] [tr,l6 thS ts,sf (decide (((ts).length:Int)<1)),tr]<|splitr 79 (x:=(decide (((ts).length:Int)<1))) kr (fun h10=>?_) (fun h10=>?_)
           ·
            replace h10:(ts.length:Int)<1:=of_decide_eq_true h10
            exact ka [] 5 25 [84,2,1] [0] [tr]<|en<|an<|ct<|kb [] 1 [2,1] [0] []<|xw_ret<|an_ret<|bs (.f) (Or.inr <| ⟨Kb1,rfl⟩)
           ·
            replace h10:¬ ((ts.length:Int)<1):=of_decide_eq_false h10
            refine ka [(27,.i ((ts).length:Int)),(28,.bool (decide (4<((ts).length:Int))))] 5 25 [84,2,1] [0] [tr,l6 thS ts,sf (decide (4<((ts).length:Int))),tr]<|en<|an<|xcD (4<((ts).length:Int)) (fun h11=>?_) (fun h11=>?_)
            ·
             exact kb [] 1 [2,1] [0] []<|xw_ret<|an_ret<|bs (.f) (Or.inr <| ⟨Kb1,rfl⟩)
            ·
             refine xw_skip<|an<|xw_seq<|kb [] 1 [6,2,1] [0] []<|xw_block<|xw_loop (α:={q:Int // (0<=q)/\(q<=(ts.length:Int))/\(Bfs (ts.take (Int.toNat q)) f1)}) (fun p=>⟨[(6,.i p.1),(2,.f),(1,.p 0)],[(0,.cells (hp W xs ys f0 f1 f2 t0 t1 t2 sz lm ts ph scn fl os brk) 32)],1⟩) (fun p=>((ts.length:Int) - p.1).toNat) ⟨0,⟨om,om,Kb4⟩⟩ (le_s []) ?_
             rintro ⟨i1,h12,h13,h14⟩
             show XW _ _ _ _ _ _ ⟨[(6,.int .i64 i1),(2,.bool false),(1,.loc 0 0)],[(0,.cells (mr W xs ys [.int .i64 f0,.int .i64 f1,.int .i64 f2,.int .i64 t0,.int .i64 t1,.int .i64 t2,.int .i64 sz,.int .i64 lm,(sT ts),.int .i64 ph,.int .i64 scn,.int .i64 fl,(sN os),.int .i64 brk]) 32)],1⟩
             refine xw_seq<|kb [(3,.i ((ts).length:Int)),(4,.bool (decide (i1<((ts).length:Int))))] 5 [89,6,2,1] [0] [tr,l6 thS ts,sf (decide (i1<((ts).length:Int)))]<|xcD (i1<((ts).length:Int)) (fun h15=>?_) (fun h15=>?_)
             ·
              refine xw_skip<|an<|xw_seq<|xw_block<|xw_seq<|reg<|ka [(3,.agg (tc (thA ts i1)))] 4 0 [95,6,2,1] [0] [tr,⟨(0:Int)<=i1/\i1<((((List.map thS ts)).length:Nat):Int)/\((List.map thS ts))[(i1:Int).toNat]? = some (.agg (tc (thA ts i1))),(ix_th om lw)⟩] ?_
              have h16:U64s (Th.st (thA ts i1)):=(Ths.at rq _).1
              have h17:((Th.st (thA ts i1)).length:Int) * 8<=140737488355000:=(Ths.at rq _).2.1
              have h18:(I6 (Th.b0 (thA ts i1))):=(Ths.at rq _).2.2.1
              have h19:(I6 (Th.b1 (thA ts i1))):=(Ths.at rq _).2.2.2.1
              have h20:Ents (Th.lg (thA ts i1)):=(Ths.at rq _).2.2.2.2.1
              have h21:((Th.lg (thA ts i1)).length:Int) * 16<=140737488355000:=(Ths.at rq _).2.2.2.2.2.1
              have h22:Ops (Th.lf (thA ts i1)):=(Ths.at rq _).2.2.2.2.2.2.1
              have h23:((Th.lf (thA ts i1)).length:Int) * 64<=140737488355000:=(Ths.at rq _).2.2.2.2.2.2.2.1
              have h24:Ents (K8 ts i1):=(Ths.at rq _).2.2.2.2.2.2.2.2.1
              have h25:((K8 ts i1).length:Int) * 16<=140737488355000:=(Ths.at rq _).2.2.2.2.2.2.2.2.2.1
              have h26:Anss (Th.dn (thA ts i1)):=(Ths.at rq _).2.2.2.2.2.2.2.2.2.2.1
              have h27:((Th.dn (thA ts i1)).length:Int) * 24<=140737488355000:=(Ths.at rq _).2.2.2.2.2.2.2.2.2.2.2
              refine ka [] 3 4 [7,6,2,1] [1,0] [tr,tr]<|en<|an<|xw_seq<|reg<|ka [(3,.bool ((Th.b0 (thA ts i1)) == 0))] 5 0 [101,7,6,2,1] [1,0] [tr,sf ((Th.b0 (thA ts i1)) == 0)]<|splitr 101 (x:=((Th.b0 (thA ts i1)) == 0)) kr (fun h28=>?_) (fun h28=>?_)
              ·
               replace h28:(Th.b0 (thA ts i1))=0:=eq_of_beq h28
               refine ka [(8,.bool ((Th.b1 (thA ts i1)) == 0))] 6 5 [8,7,6,2,1] [1,0] [tr,sf ((Th.b1 (thA ts i1)) == 0),tr]<|en<|an<|xw_seq<|reg<|ka [] 3 0 [109,7,6,2,1] [1,0] []<|splitr 109 (x:=(!((Th.b1 (thA ts i1)) == 0))) kr (fun h29=>?_) (fun h29=>?_)
               ·
                replace h29:(Th.b1 (thA ts i1))≠0:=by first | (simp; done) | simpa using h29 | (simp at h29; omega)
                refine ka [(6,.f),(14,.bool (decide ((Th.b1 (thA ts i1))<(Th.b0 (thA ts i1)))))] 14 3 [123,109,7,6,2,1] [1,0] [tr,dF ((Th.b0 (thA ts i1))<0),tr,tr,sf (decide ((Th.b1 (thA ts i1))<(Th.b0 (thA ts i1)))),tr]<|splitr 123 (x:=(decide ((Th.b1 (thA ts i1))<(Th.b0 (thA ts i1))))) kr (fun h30=>?_) (fun h30=>?_)
                ·
                 replace h30:(Th.b1 (thA ts i1))<(Th.b0 (thA ts i1)):=of_decide_eq_true h30
                 exact ka [] 15 17 [138,6,2,1] [0] [tr,tr,tr]<|en<|an<|ct<|kB [] 1 ⟨[(2,.f),(6,.i i1),(1,.p 0)],[(0,.cells (hp W xs ys f0 f1 f2 t0 t1 t2 sz lm ts ph scn fl os brk) 32)],2⟩ []<|xw_ret<|ib_ret<|an_ret<|ag_ret<|ib_ret<|an_ret<|bs (.f) (Or.inr <| ⟨Kb1,rfl⟩)
                ·
                 replace h30:¬ ((Th.b1 (thA ts i1))<(Th.b0 (thA ts i1))):=of_decide_eq_false h30
                 refine ka [(23,.bool (decide (f1<(Th.b1 (thA ts i1)))))] 10 17 [133,7,6,2,1] [1,0] [tr,tr,sf (decide (f1<(Th.b1 (thA ts i1)))),tr,tr]<|splitr 133 (x:=(decide (f1<(Th.b1 (thA ts i1))))) kr (fun h31=>?_) (fun h31=>?_)
                 ·
                  replace h31:f1<(Th.b1 (thA ts i1)):=of_decide_eq_true h31
                  exact kA [] 5 27 ⟨[(138,.t),(6,.i i1),(2,.f),(1,.p 0)],[(0,.cells (hp W xs ys f0 f1 f2 t0 t1 t2 sz lm ts ph scn fl os brk) 32)],2⟩ [tr]<|en<|an<|ct<|kb [] 1 [2,6,1] [0] []<|xw_ret<|ib_ret<|an_ret<|ag_ret<|ib_ret<|an_ret<|bs (.f) (Or.inr <| ⟨Kb1,rfl⟩)
                 ·
                  replace h31:¬ (f1<(Th.b1 (thA ts i1))):=of_decide_eq_false h31
                  refine kA (K3 ts i1) 5 27 ⟨[(138,.bool (decide (1<(((K8 ts i1)).length:Int)))),(6,.i i1),(2,.f),(1,.p 0)],[(0,.cells (hp W xs ys f0 f1 f2 t0 t1 t2 sz lm ts ph scn fl os brk) 32)],2⟩ [tr,l6 entS (K8 ts i1),sf (decide (1<(((K8 ts i1)).length:Int))),tr]<|en<|an<|xcD (1<(((K8 ts i1)).length:Int)) (fun h32=>?_) (fun h32=>?_)
                  ·
                   exact kb [] 1 [2,6,1] [0] []<|xw_ret<|ib_ret<|an_ret<|ag_ret<|ib_ret<|an_ret<|bs (.f) (Or.inr <| ⟨Kcb1,rfl⟩)
                  ·
                   exact xw_skip<|ib<|an<|kc [(1,.i (i1 + 1))] 3 [6,2,1] [0] [w6 (i1 + 1)]<|ag ⟨(i1 + 1),⟨om,om,Kcb3⟩⟩ (le_s []) dm
               ·
                replace h29:(Th.b1 (thA ts i1))=0:=by first | (simp; done) | simpa using h29
                refine ka (K3 ts i1) 29 3 [138,6,2,1] [0] [tr,tr,l6 entS (K8 ts i1),sf (decide (1<(((K8 ts i1)).length:Int))),tr]<|en<|an<|xcD (1<(((K8 ts i1)).length:Int)) (fun h30=>?_) (fun h30=>?_)
                ·
                 exact kb [] 1 [2,6,1] [0] []<|xw_ret<|ib_ret<|an_ret<|ag_ret<|ib_ret<|an_ret<|bs (.f) (Or.inr <| ⟨Kcb1,rfl⟩)
                ·
                 exact xw_skip<|ib<|an<|kc [(1,.i (i1 + 1))] 3 [6,2,1] [0] [w6 (i1 + 1)]<|ag ⟨(i1 + 1),⟨om,om,Kcb3⟩⟩ (le_s []) dm
              ·
               replace h28:(Th.b0 (thA ts i1))≠0:=ne_of_beq_false h28
               refine ka [] 6 5 [8,7,6,2,1] [1,0] [tr]<|en<|an<|xw_seq<|reg<|ka [(6,.bool (decide ((Th.b0 (thA ts i1))<0)))] 8 0 [114,109,7,6,2,1] [1,0] [tr,sf (decide ((Th.b0 (thA ts i1))<0))]<|splitr 114 (x:=(decide ((Th.b0 (thA ts i1))<0))) kr (fun h29=>?_) (fun h29=>?_)
               ·
                replace h29:(Th.b0 (thA ts i1))<0:=of_decide_eq_true h29
                exact ka [] 24 8 [138,6,2,1] [0] [tr,tr,tr,tr]<|en<|an<|ct<|kb [] 1 [2,6,1] [0] []<|xw_ret<|ib_ret<|an_ret<|ag_ret<|ib_ret<|an_ret<|bs (.f) (Or.inr <| ⟨Kb1,rfl⟩)
               ·
                replace h29:¬ ((Th.b0 (thA ts i1))<0):=of_decide_eq_false h29
                refine ka [(14,.bool (decide ((Th.b1 (thA ts i1))<(Th.b0 (thA ts i1)))))] 9 8 [123,109,7,6,2,1] [1,0] [tr,tr,sf (decide ((Th.b1 (thA ts i1))<(Th.b0 (thA ts i1)))),tr]<|splitr 123 (x:=(decide ((Th.b1 (thA ts i1))<(Th.b0 (thA ts i1))))) kr (fun h30=>?_) (fun h30=>?_)
                ·
                 replace h30:(Th.b1 (thA ts i1))<(Th.b0 (thA ts i1)):=of_decide_eq_true h30
                 exact ka [] 15 17 [138,6,2,1] [0] [tr,tr,tr]<|en<|an<|ct<|kB [] 1 ⟨[(2,.f),(6,.i i1),(1,.p 0)],[(0,.cells (hp W xs ys f0 f1 f2 t0 t1 t2 sz lm ts ph scn fl os brk) 32)],2⟩ []<|xw_ret<|ib_ret<|an_ret<|ag_ret<|ib_ret<|an_ret<|bs (.f) (Or.inr <| ⟨Kb1,rfl⟩)
                ·
                 replace h30:¬ ((Th.b1 (thA ts i1))<(Th.b0 (thA ts i1))):=of_decide_eq_false h30
                 refine ka [(23,.bool (decide (f1<(Th.b1 (thA ts i1)))))] 10 17 [133,7,6,2,1] [1,0] [tr,tr,sf (decide (f1<(Th.b1 (thA ts i1)))),tr,tr]<|splitr 133 (x:=(decide (f1<(Th.b1 (thA ts i1))))) kr (fun h31=>?_) (fun h31=>?_)
                 ·
                  replace h31:f1<(Th.b1 (thA ts i1)):=of_decide_eq_true h31
                  exact kA [] 5 27 ⟨[(138,.t),(6,.i i1),(2,.f),(1,.p 0)],[(0,.cells (hp W xs ys f0 f1 f2 t0 t1 t2 sz lm ts ph scn fl os brk) 32)],2⟩ [tr]<|en<|an<|ct<|kb [] 1 [2,6,1] [0] []<|xw_ret<|ib_ret<|an_ret<|ag_ret<|ib_ret<|an_ret<|bs (.f) (Or.inr <| ⟨Kb1,rfl⟩)
                 ·
                  replace h31:¬ (f1<(Th.b1 (thA ts i1))):=of_decide_eq_false h31
                  refine kA (K3 ts i1) 5 27 ⟨[(138,.bool (decide (1<(((K8 ts i1)).length:Int)))),(6,.i i1),(2,.f),(1,.p 0)],[(0,.cells (hp W xs ys f0 f1 f2 t0 t1 t2 sz lm ts ph scn fl os brk) 32)],2⟩ [tr,l6 entS (K8 ts i1),sf (decide (1<(((K8 ts i1)).length:Int))),tr]<|en<|an<|xcD (1<(((K8 ts i1)).length:Int)) (fun h32=>?_) (fun h32=>?_)
                  ·
                   exact kb [] 1 [2,6,1] [0] []<|xw_ret<|ib_ret<|an_ret<|ag_ret<|ib_ret<|an_ret<|bs (.f) (Or.inr <| ⟨Kcb1,rfl⟩)
                  ·
                   exact xw_skip<|ib<|an<|kc [(1,.i (i1 + 1))] 3 [6,2,1] [0] [w6 (i1 + 1)]<|ag ⟨(i1 + 1),⟨om,om,Kcb3⟩⟩ (le_s []) dm
             ·
              refine xw_exit<|an_exit<|ag_exit<|ib_same<|an<|xw_seq<|reg<|ka [(2,.bool (decide (0<=ph)))] 4 0 [142,2,1] [0] [tr,sf (decide (0<=ph))]<|splitr 142 (x:=(decide (0<=ph))) kr (fun h16=>?_) (fun h16=>?_)
              ·
               replace h16:0<=ph:=of_decide_eq_true h16
               refine ka [(6,.bool (decide (ph<=2)))] 5 4 [147,2,1] [0] [tr,sf (decide (ph<=2)),tr]<|splitr 147 (x:=(decide (ph<=2))) kr (fun h17=>?_) (fun h17=>?_)
               ·
                replace h17:ph<=2:=of_decide_eq_true h17
                refine ka [(11,.bool (decide (0<=scn)))] 5 9 [152,2,1] [0] [tr,sf (decide (0<=scn)),tr]<|splitr 152 (x:=(decide (0<=scn))) kr (fun h18=>?_) (fun h18=>?_)
                ·
                 replace h18:0<=scn:=of_decide_eq_true h18
                 refine ka [(19,.bool (decide (scn<=t1)))] 8 14 [2] [] [tr,tr,sf (decide (scn<=t1)),tr]<|en<|an<|xw_ret ?_
                 by_cases h19:scn<=t1
                 ·
                  exact br (.bool (decide (scn<=t1))) (.t) (wk_s [(0,⟨(decide (scn<=t1))=true,Kb1⟩)]) (Or.inl <| ⟨Kb1,rfl⟩)
                 ·
                  exact br (.bool (decide (scn<=t1))) (.f) (wk_s [(0,⟨(decide (scn<=t1))=false,Kb1⟩)]) (Or.inr <| ⟨Kb1,rfl⟩)
                ·
                 replace h18:¬ (0<=scn):=of_decide_eq_false h18
                 exact ka [] 8 14 [2] [] [tr]<|en<|an<|xw_ret<|bs (.f) (Or.inr <| ⟨Kb1,rfl⟩)
               ·
                replace h17:¬ (ph<=2):=of_decide_eq_false h17
                exact ka [] 13 9 [2] [] [tr,tr]<|en<|an<|xw_ret<|bs (.f) (Or.inr <| ⟨Kb1,rfl⟩)
              ·
               replace h16:¬ (0<=ph):=of_decide_eq_false h16
               exact ka [] 18 4 [2] [] [tr,tr,tr]<|en<|an<|xw_ret<|bs (.f) (Or.inr <| ⟨Kb1,rfl⟩)
   ·
    exact pc (rright_2 t0 t1 t2 ZZ)<|ka [] 1 3 [5,4,3,2,1] [0] []<|en<|an<|xw_seq<|kb [] 37 [54,2,1] [0] [tr,tr,tr,tr,tr]<|ct<|kB [] 1 ⟨[(2,.f),(1,.p 0)],[(0,.cells (hp W xs ys f0 f1 f2 t0 t1 t2 sz lm ts ph scn fl os brk) 32)],1⟩ []<|xw_ret<|an_ret<|bs (.f) (Or.inr <| ⟨Kb1,rfl⟩)
  ·
   refine pc (rright_2 f0 f1 f2 ZZ)<|ka [] 1 3 [4,3,2,1] [0] []<|en<|an<|xw_seq<|reg<|ka [] 2 0 [16,4,3,2,1] [0] [tr] ?_
   by_cases h2:(t0=0\/t0=1)/\0<=t1/\t1<=t2/\t2<=4096
   ·
    exact pc (rright_1 t0 t1 t2 ZZ)<|ka [] 1 3 [5,4,3,2,1] [0] []<|en<|an<|xw_seq<|kb [] 37 [54,2,1] [0] [tr,tr,tr,tr,tr]<|ct<|kB [] 1 ⟨[(2,.f),(1,.p 0)],[(0,.cells (hp W xs ys f0 f1 f2 t0 t1 t2 sz lm ts ph scn fl os brk) 32)],1⟩ []<|xw_ret<|an_ret<|bs (.f) (Or.inr <| ⟨Kb1,rfl⟩)
   ·
    exact pc (rright_2 t0 t1 t2 ZZ)<|ka [] 1 3 [5,4,3,2,1] [0] []<|en<|an<|xw_seq<|kb [] 37 [54,2,1] [0] [tr,tr,tr,tr,tr]<|ct<|kB [] 1 ⟨[(2,.f),(1,.p 0)],[(0,.cells (hp W xs ys f0 f1 f2 t0 t1 t2 sz lm ts ph scn fl os brk) 32)],1⟩ []<|xw_ret<|an_ret<|bs (.f) (Or.inr <| ⟨Kb1,rfl⟩)
 ·
  refine pc (rmright_2 W xs ys ZZ ZZ)<|ka [] 1 3 [3,2,1] [0] []<|en<|an<|xw_seq<|reg<|ka [] 2 0 [13,3,2,1] [0] [tr] ?_
  by_cases h1:(f0=0\/f0=1)/\0<=f1/\f1<=f2/\f2<=4096
  ·
   refine pc (rright_1 f0 f1 f2 ZZ)<|ka [] 1 3 [4,3,2,1] [0] []<|en<|an<|xw_seq<|reg<|ka [] 2 0 [16,4,3,2,1] [0] [tr] ?_
   by_cases h2:(t0=0\/t0=1)/\0<=t1/\t1<=t2/\t2<=4096
   ·
    exact pc (rright_1 t0 t1 t2 ZZ)<|ka [] 1 3 [5,4,3,2,1] [0] []<|en<|an<|xw_seq<|kb [] 37 [54,2,1] [0] [tr,tr,tr,tr,tr]<|ct<|kB [] 1 ⟨[(2,.f),(1,.p 0)],[(0,.cells (hp W xs ys f0 f1 f2 t0 t1 t2 sz lm ts ph scn fl os brk) 32)],1⟩ []<|xw_ret<|an_ret<|bs (.f) (Or.inr <| ⟨Kb1,rfl⟩)
   ·
    exact pc (rright_2 t0 t1 t2 ZZ)<|ka [] 1 3 [5,4,3,2,1] [0] []<|en<|an<|xw_seq<|kb [] 37 [54,2,1] [0] [tr,tr,tr,tr,tr]<|ct<|kB [] 1 ⟨[(2,.f),(1,.p 0)],[(0,.cells (hp W xs ys f0 f1 f2 t0 t1 t2 sz lm ts ph scn fl os brk) 32)],1⟩ []<|xw_ret<|an_ret<|bs (.f) (Or.inr <| ⟨Kb1,rfl⟩)
  ·
   refine pc (rright_2 f0 f1 f2 ZZ)<|ka [] 1 3 [4,3,2,1] [0] []<|en<|an<|xw_seq<|reg<|ka [] 2 0 [16,4,3,2,1] [0] [tr] ?_
   by_cases h2:(t0=0\/t0=1)/\0<=t1/\t1<=t2/\t2<=4096
   ·
    exact pc (rright_1 t0 t1 t2 ZZ)<|ka [] 1 3 [5,4,3,2,1] [0] []<|en<|an<|xw_seq<|kb [] 37 [54,2,1] [0] [tr,tr,tr,tr,tr]<|ct<|kB [] 1 ⟨[(2,.f),(1,.p 0)],[(0,.cells (hp W xs ys f0 f1 f2 t0 t1 t2 sz lm ts ph scn fl os brk) 32)],1⟩ []<|xw_ret<|an_ret<|bs (.f) (Or.inr <| ⟨Kb1,rfl⟩)
   ·
    exact pc (rright_2 t0 t1 t2 ZZ)<|ka [] 1 3 [5,4,3,2,1] [0] []<|en<|an<|xw_seq<|kb [] 37 [54,2,1] [0] [tr,tr,tr,tr,tr]<|ct<|kB [] 1 ⟨[(2,.f),(1,.p 0)],[(0,.cells (hp W xs ys f0 f1 f2 t0 t1 t2 sz lm ts ph scn fl os brk) 32)],1⟩ []<|xw_ret<|an_ret<|bs (.f) (Or.inr <| ⟨Kb1,rfl⟩)
theorem hrightB_1 (W:Int)(xs ys:List Int)(f0 f1 f2 t0 t1 t2 sz lm:Int)(ts:List Th)(ph scn fl:Int)(os:List Int)(brk:Int)(hp0:I6 W)(hp1:U64s xs)(hp2:U64s ys)(hp3:I6 f0)(hp4:I6 f1)(hp5:I6 f2)(hp6:I6 t0)(hp7:I6 t1)(hp8:I6 t2)(hp9:I6 sz)(hp10:I6 lm)(hp11:Ths ts)(hp12:(ts.length:Int) * 144<=140737488355000)(hp13:I6 ph)(hp14:I6 scn)(hp15:I6 fl)(hp16:I64s os)(hp17:(os.length:Int) * 8<=140737488355000)(hp18:I6 brk)(hp19:RGT W xs ys f0 f1 f2 t0 t1 t2 sz lm ts ph scn):Pub Tryz.prog 13 [.agg (hp W xs ys f0 f1 f2 t0 t1 t2 sz lm ts ph scn fl os brk)] (fun rv=>rv = .t) :=
  (hrightB W xs ys f0 f1 f2 t0 t1 t2 sz lm ts ph scn fl os brk hp0 hp1 hp2 hp3 hp4 hp5 hp6 hp7 hp8 hp9 hp10 hp11 hp12 hp13 hp14 hp15 hp16 hp17 hp18).mono vr
theorem hrightB_2 (W:Int)(xs ys:List Int)(f0 f1 f2 t0 t1 t2 sz lm:Int)(ts:List Th)(ph scn fl:Int)(os:List Int)(brk:Int)(hp0:I6 W)(hp1:U64s xs)(hp2:U64s ys)(hp3:I6 f0)(hp4:I6 f1)(hp5:I6 f2)(hp6:I6 t0)(hp7:I6 t1)(hp8:I6 t2)(hp9:I6 sz)(hp10:I6 lm)(hp11:Ths ts)(hp12:(ts.length:Int) * 144<=140737488355000)(hp13:I6 ph)(hp14:I6 scn)(hp15:I6 fl)(hp16:I64s os)(hp17:(os.length:Int) * 8<=140737488355000)(hp18:I6 brk)(hp19:¬ (RGT W xs ys f0 f1 f2 t0 t1 t2 sz lm ts ph scn)):Pub Tryz.prog 13 [.agg (hp W xs ys f0 f1 f2 t0 t1 t2 sz lm ts ph scn fl os brk)] (fun rv=>rv = .f) :=
  (hrightB W xs ys f0 f1 f2 t0 t1 t2 sz lm ts ph scn fl os brk hp0 hp1 hp2 hp3 hp4 hp5 hp6 hp7 hp8 hp9 hp10 hp11 hp12 hp13 hp14 hp15 hp16 hp17 hp18).mono vr
theorem fewB (W:Int)(xs ys:List Int)(f0 f1 f2 t0 t1 t2 sz lm:Int)(ts:List Th)(ph scn fl:Int)(os:List Int)(brk:Int)(hp0:I6 W)(hp1:U64s xs)(hp2:U64s ys)(hp3:I6 f0)(hp4:I6 f1)(hp5:I6 f2)(hp6:I6 t0)(hp7:I6 t1)(hp8:I6 t2)(hp9:I6 sz)(hp10:I6 lm)(hp11:Ths ts)(hp12:(ts.length:Int) * 144<=140737488355000)(hp13:I6 ph)(hp14:I6 scn)(hp15:I6 fl)(hp16:I64s os)(hp17:(os.length:Int) * 8<=140737488355000)(hp18:I6 brk):Pub Tryz.prog 5 [.agg (hp W xs ys f0 f1 f2 t0 t1 t2 sz lm ts ph scn fl os brk)] (fun rv=>((RGT W xs ys f0 f1 f2 t0 t1 t2 sz lm ts ph scn)/\(W<=200)/\rv = .t)\/((¬ ((RGT W xs ys f0 f1 f2 t0 t1 t2 sz lm ts ph scn)/\(W<=200)))/\rv = .f)):=by
 refine pub_of TT_ok Tryz.func5 rfl (by decide) nk kr<|kb [] 2 [2,1] [0] []<|xw_seq<|reg<|ka [] 1 0 [4,2,1] [0] [tr] ?_
 by_cases h0:RGT W xs ys f0 f1 f2 t0 t1 t2 sz lm ts ph scn
 ·
  refine pc (hrightB_1 W xs ys f0 f1 f2 t0 t1 t2 sz lm ts ph scn fl os brk ZZ ZZ ZZ ZZ ZZ ZZ ZZ ZZ ZZ ZZ ZZ ZZ om ZZ ZZ ZZ ZZ om ZZ ZZ)<|ka [] 1 2 [3,2,1] [0] []<|en<|an<|kb [(5,.bool (decide (W<=200)))] 8 [2] [] [tr,sf (decide (W<=200)),tr]<|xw_ret ?_
  by_cases h1:W<=200
  ·
   exact br (.bool (decide (W<=200))) (.t) (wk_s [(0,⟨(decide (W<=200))=true,Kb3⟩)]) (Or.inl <| ⟨om,om,rfl⟩)
  ·
   exact br (.bool (decide (W<=200))) (.f) (wk_s [(0,⟨(decide (W<=200))=false,Kb3⟩)]) (Or.inr <| ⟨om,rfl⟩)
 ·
  exact pc (hrightB_2 W xs ys f0 f1 f2 t0 t1 t2 sz lm ts ph scn fl os brk ZZ ZZ ZZ ZZ ZZ ZZ ZZ ZZ ZZ ZZ ZZ ZZ om ZZ ZZ ZZ ZZ om ZZ ZZ)<|ka [] 1 2 [3,2,1] [0] []<|en<|an<|kb [] 8 [2] [] [tr]<|xw_ret<|bs (.f) (Or.inr <| ⟨Kb3,rfl⟩)
theorem fewB_1 (W:Int)(xs ys:List Int)(f0 f1 f2 t0 t1 t2 sz lm:Int)(ts:List Th)(ph scn fl:Int)(os:List Int)(brk:Int)(hp0:I6 W)(hp1:U64s xs)(hp2:U64s ys)(hp3:I6 f0)(hp4:I6 f1)(hp5:I6 f2)(hp6:I6 t0)(hp7:I6 t1)(hp8:I6 t2)(hp9:I6 sz)(hp10:I6 lm)(hp11:Ths ts)(hp12:(ts.length:Int) * 144<=140737488355000)(hp13:I6 ph)(hp14:I6 scn)(hp15:I6 fl)(hp16:I64s os)(hp17:(os.length:Int) * 8<=140737488355000)(hp18:I6 brk)(hp19:RGT W xs ys f0 f1 f2 t0 t1 t2 sz lm ts ph scn)(hp20:W<=200):Pub Tryz.prog 5 [.agg (hp W xs ys f0 f1 f2 t0 t1 t2 sz lm ts ph scn fl os brk)] (fun rv=>rv = .t) :=
  (fewB W xs ys f0 f1 f2 t0 t1 t2 sz lm ts ph scn fl os brk hp0 hp1 hp2 hp3 hp4 hp5 hp6 hp7 hp8 hp9 hp10 hp11 hp12 hp13 hp14 hp15 hp16 hp17 hp18).mono vr
theorem fewB_2 (W:Int)(xs ys:List Int)(f0 f1 f2 t0 t1 t2 sz lm:Int)(ts:List Th)(ph scn fl:Int)(os:List Int)(brk:Int)(hp0:I6 W)(hp1:U64s xs)(hp2:U64s ys)(hp3:I6 f0)(hp4:I6 f1)(hp5:I6 f2)(hp6:I6 t0)(hp7:I6 t1)(hp8:I6 t2)(hp9:I6 sz)(hp10:I6 lm)(hp11:Ths ts)(hp12:(ts.length:Int) * 144<=140737488355000)(hp13:I6 ph)(hp14:I6 scn)(hp15:I6 fl)(hp16:I64s os)(hp17:(os.length:Int) * 8<=140737488355000)(hp18:I6 brk)(hp19:¬ ((RGT W xs ys f0 f1 f2 t0 t1 t2 sz lm ts ph scn)/\(W<=200))):Pub Tryz.prog 5 [.agg (hp W xs ys f0 f1 f2 t0 t1 t2 sz lm ts ph scn fl os brk)] (fun rv=>rv = .f) :=
  (fewB W xs ys f0 f1 f2 t0 t1 t2 sz lm ts ph scn fl os brk hp0 hp1 hp2 hp3 hp4 hp5 hp6 hp7 hp8 hp9 hp10 hp11 hp12 hp13 hp14 hp15 hp16 hp17 hp18).mono vr
end Go.Proofs.YtmmfpkkamgapkaaGreat.X
