/- Contracts of Go functions: what each returns,for every input that its premises name; no memory of the caller is touched. Printed by a program. -/
import Derived.Test.YtmmfpkkamgapkaaGreatXt
import Derived.Test.YtmmfpkkamgapkaaGreatXq2
import Derived.Test.YtmmfpkkamgapkaaGreatXu8
import Derived.Test.YtmmfpkkamgapkaaGreatXq5
namespace Go.Proofs.YtmmfpkkamgapkaaGreat.X
open Go Go.RowKit
set_option linter.unusedVariables false
set_option linter.unusedSimpArgs false
abbrev L12(ts:List Th)(th:Int):=Th.pd (thA ts th)
abbrev L4(ts:List Th)(th:Int):=Th.lf (thA ts th)
abbrev L10(ts:List Th)(th:Int):=Th.lg (thA ts th)
abbrev L5(ts:List Th)(th e v:Int)(yes:Bool):=(Th.dn (thA ts th))++[(AnsV.mk e v yes)]
abbrev L2(ts:List Th)(th e v:Int)(yes:Bool):=List.set ts (Int.toNat th) (Th.mk (Th.st (thA ts th)) (Th.b0 (thA ts th)) (Th.b1 (thA ts th)) (L10 ts th) (((L4 ts th).take ((((L4 ts th).length:Int):Int).toNat)).drop ((1:Int).toNat)) (L12 ts th) (Th.wt (thA ts th)) (L5 ts th e v yes))
abbrev L3(ts:List Th)(th e v:Int)(yes:Bool):=List.set ts (Int.toNat th) (Th.mk (Th.st (thA ts th)) (Th.b0 (thA ts th)) (Th.b1 (thA ts th)) (L10 ts th) (L4 ts th) (L12 ts th) (Th.wt (thA ts th)) (L5 ts th e v yes))
abbrev L6(ts:List Th)(th e v:Int)(yes:Bool):=tcs (Th.st (thA ts th)) (Th.b0 (thA ts th)) (Th.b1 (thA ts th)) (L10 ts th) (L4 ts th) (L12 ts th) (Th.wt (thA ts th)) (L5 ts th e v yes)
abbrev L7(ts:List Th)(th e v:Int)(yes:Bool):=List.set ts (Int.toNat th) (tN (thA ts th) ((L4 ts th).drop 1) (L5 ts th e v yes))
abbrev L8(ts:List Th)(th:Int):=List.map opS (((L4 ts th).take ((((L4 ts th).length:Int):Int).toNat)).drop ((1:Int).toNat))
abbrev L9(e v:Int)(yes:Bool):=List.map ansS [(AnsV.mk e v yes)]
abbrev L11(ts:List Th)(th e v:Int)(yes:Bool):=List.set ts (Int.toNat th) (tN (thA ts th) (L4 ts th) (L5 ts th e v yes))
abbrev L13(l:List AnsV):=List.map ansS ((l.take (((l.length:Int):Int).toNat)).drop ((0:Int).toNat))
abbrev L14(l:List Int):=List.map (SV.int .i64) (l.take (((l.length:Int):Int).toNat))
abbrev L15(l:List Int)(e:Int):=List.map (SV.int .i64) ((l.take (((l.length:Int):Int).toNat))++[e])
theorem Lo{p:Prop}(h:p:=by first|omega|(simp only [L12,L4,L10,L5,L2,L3,L6,L7,L8,L9,L11,L13,L14,L15] at *;first|omega|assumption|(simp;done)|(simp;omega))):p:=h
theorem Lb2{p:Prop}(h:p:=by symm; unfold wrB; first | (apply decide_eq_true; omega) | (apply decide_eq_false; omega) | (rw [Bool.eq_iff_iff]; simp; omega)):p:=h
theorem Lb1{p:Prop}(h:p:=by first | rfl | exact decide_eq_true om | exact decide_eq_false om | exact (can_1 om).symm | exact (can_2 om).symm | exact ((nx_1 om).trans (can_n om om om)).symm | exact ((nx_2 ZZ).trans (can_n om om om)).symm | exact ((nx_3 om).trans (can_n om om om)).symm | exact ((decide_eq_false om).symm.trans ((nx_6 om ZZ om (of_decide_eq_true ‹wrB _=true›) om).trans (can_n om om om))).symm | exact (can_3 om om om).symm | exact ((nx_4 om ZZ om (of_decide_eq_false ‹wrB _=false›)).trans (can_n om om om)).symm | exact ((nx_5 om ZZ om om).trans (can_n om om om)).symm | exact ((decide_eq_true om).symm.trans ((nx_6 om ZZ om (of_decide_eq_true ‹wrB _=true›) om).trans (can_n om om om))).symm):p:=h
theorem Lcb1{p:Prop}(h:p:=by (try simp only [L12,L4,L10] at *);first | rfl | exact decide_eq_true Lo | exact decide_eq_false Lo | exact (can_1 Lo).symm | exact (can_2 Lo).symm | exact ((nx_1 Lo).trans (can_n Lo Lo Lo)).symm | exact ((nx_2 ZZ).trans (can_n Lo Lo Lo)).symm | exact ((nx_3 Lo).trans (can_n Lo Lo Lo)).symm | exact ((decide_eq_false Lo).symm.trans ((nx_6 Lo ZZ Lo (of_decide_eq_true ‹wrB _=true›) Lo).trans (can_n Lo Lo Lo))).symm | exact (can_3 Lo Lo Lo).symm | exact ((nx_4 Lo ZZ Lo (of_decide_eq_false ‹wrB _=false›)).trans (can_n Lo Lo Lo)).symm | exact ((nx_5 Lo ZZ Lo Lo).trans (can_n Lo Lo Lo)).symm | exact ((decide_eq_true Lo).symm.trans ((nx_6 Lo ZZ Lo (of_decide_eq_true ‹wrB _=true›) Lo).trans (can_n Lo Lo Lo))).symm):p:=h
theorem awith (ts:List Th)(i:Int)(st:List Int)(b0 b1:Int)(lg:List Ent)(lf:List OpV)(pd:List Ent)(wt:Bool)(dn:List AnsV)(hp0:0<=i)(hp1:i<(ts.length:Int))(hp2:(ts.length:Int) * 144<=140737488355000):Pub Tryz.prog 25 [(sT ts),.i i,.agg (tcs st b0 b1 lg lf pd wt dn)] (fun rv=>rv=(sT (List.set ts (Int.toNat i) (Th.mk st b0 b1 lg lf pd wt dn)))):=by
 refine pub_of TT_ok Tryz.func25 rfl (by decide) nk kr<|kb [] 2 [6,5,0,1] [0] []<|xw_seq<|reg<|ka [] 1 0 [7,6,5,0,1] [0] []<|callx (f:=48) (args:=[(sT ts)]) (d:=(some 8)) kr (xcall_of TT_ok Tryz.func48 rfl (by decide) nk ?_)
 refine kb [] 1 [2,0] [0] []<|xw_seq<|kB [] 2 ⟨[(4,.f),(2,.nils),(0,(sT ts))],[(0,.cells (tcs st b0 b1 lg lf pd wt dn) 42)],1⟩ [⟨((List.map thS ts))≠[],(mapf_ne lw)⟩]<|cf<|xw_skip<|an<|xw_seq<|reg<|ka [] 3 0 [7,2] [2,0] [⟨(∀ y∈((List.map thS ts):List SV),ElemOk y)/\(false=true->1<=((List.map thS ts):List SV).length/\∀ x∈([] : List SV),ElemOk x)/\(([] : List SV).length + ((List.map thS ts):List SV).length) * 144<=140737488355328/\([] : List SV).length + ((List.map thS ts):List SV).length<=4611686018427387904,⟨elem_th,(fun h=>by cases h),lw,lw⟩⟩]<|setr 2 (z:=8) (E:=42) (L:=(([])++((List.map thS ts)))) (L':=(List.map thS ts)) kr nil_app<|ka [] 1 3 [2] [2,0] []<|en<|an<|xw_ret<|⟨.own 2,kr,?_⟩
 exact kA [] 1 2 ⟨[(0,.own 2),(6,.nils),(5,.p 0),(1,.i i)],[(2,.row 8 42 (List.map thS ts)),(0,.cells (tcs st b0 b1 lg lf pd wt dn) 42)],3⟩ []<|en<|an<|xw_seq<|reg<|ka [] 5 0 [0,6] [2] [tr,⟨(0:Int)<=i/\i<((((List.map thS ts)).length:Nat):Int),⟨om,lw⟩⟩,⟨((i:Int).toNat)<((List.map thS ts)).length,lw⟩]<|setr 2 (z:=8) (E:=42) (L:=(((List.map thS ts)).set ((i:Int).toNat) (.agg (tcs st b0 b1 lg lf pd wt dn)))) (L':=(List.map thS (List.set ts ((i:Int).toNat) (Th.mk st b0 b1 lg lf pd wt dn)))) kr (mapf_set (f:=thS) (v:=(Th.mk st b0 b1 lg lf pd wt dn)))<|en<|an<|kb [] 2 [6] [2] []<|xw_ret<|bk_ret (.own 2) (sT (List.set ts ((i:Int).toNat) (Th.mk st b0 b1 lg lf pd wt dn))) (sT (List.set ts (Int.toNat i) (Th.mk st b0 b1 lg lf pd wt dn))) kr kr (wk_s [(1,⟨(List.map thS (List.set ts ((i:Int).toNat) (Th.mk st b0 b1 lg lf pd wt dn)))=(List.map thS (List.set ts (Int.toNat i) (Th.mk st b0 b1 lg lf pd wt dn))),(by first | omega | grind)⟩)]) rfl
theorem abeha (l:List AnsV)(e v:Int)(yes:Bool)(hp0:(l.length:Int) * 24<=140737488355000):Pub Tryz.prog 63 [(sA l),.agg [.i e,.u v,.bool yes]] (fun rv=>rv=(sA (l++[(AnsV.mk e v yes)]))):=by
 exact pub_of TT_ok Tryz.func63 rfl (by decide) nk kr<|kb [] 2 [4,3,0] [0] []<|xw_seq<|sreg hmix [([(0,.cells [.i e,.u v,.bool yes] 54)],1),([(1,.row 3 54 (((L13 l))++((L9 e v yes)))),(0,.cells [.i e,.u v,.bool yes] 54)],2)] [8] [(2,[1]),(4,[3]),(5,[0,1,2,3,4]),(7,[6]),(8,[0,1,2,3,4,5,6,7]),(9,[0,1,2,3,4,5,6,7,8])] kr kr kr kr kr<|ke [(2,.i ((l).length:Int)),(4,.i ((l).length:Int))] 6 0 [tr,tr,l6 ansS l,tr,l6 ansS l,⟨(0:Int)<=0/\0<=((l).length:Int)/\((l).length:Int)=((l).length:Int)/\((l).length:Int)<=((((List.map ansS l)).length:Nat):Int),⟨om,om,om,lw⟩⟩]<|ssets 10 (x:=true) (z:=3) (L:=((((List.map ansS l)).take (((l).length:Int):Int).toNat).drop (0:Int).toNat)) (L':=(L13 l)) kr mapf_cut<|ke [(7,.t)] 4 6 [tr,tr,⟨(∀ y∈((L9 e v yes):List SV),ElemOk y)/\(true=true->1<=((L9 e v yes):List SV).length/\∀ x∈((L13 l):List SV),ElemOk x)/\(((L13 l):List SV).length + ((L9 e v yes):List SV).length) * 24<=140737488355328/\((L13 l):List SV).length + ((L9 e v yes):List SV).length<=4611686018427387904,⟨elem_ans,(fun _=>⟨lw,elem_ans⟩),lw,lw⟩⟩,sf ([(1,.row 3 54 (((L13 l))++((L9 e v yes)))),(0,.cells [.i e,.u v,.bool yes] 54)] : Mem),sf (2:Nat),tr]<|sen<|an<|xw_ret<|bk_ret (.own 1) (.sl false 3 (((L13 l))++((L9 e v yes)))) (sA (l++[(AnsV.mk e v yes)])) kr kr (wk_s [(1,⟨(((L13 l))++((L9 e v yes)))=(List.map ansS (l++[(AnsV.mk e v yes)])),(by first | rfl | (simp; done))⟩)]) rfl
theorem abehi (l:List Int)(e:Int)(hp0:(l.length:Int) * 8<=140737488355000):Pub Tryz.prog 64 [(sN l),.i e] (fun rv=>rv=(sN (l++[e]))):=by
 exact pub_of TT_ok Tryz.func64 rfl (by decide) nk kr<|kb [] 1 [4,0,1] [] []<|xw_seq<|reg<|ka [(2,.i ((l).length:Int)),(4,.i ((l).length:Int))] 6 0 [10,4,1] [] [l6 (SV.int .i64) l,l6 (SV.int .i64) l,⟨(0:Int)<=0/\0<=((l).length:Int)/\((l).length:Int)=((l).length:Int)/\((l).length:Int)<=((((List.map (SV.int .i64) l)).length:Nat):Int),⟨om,om,om,lw⟩⟩]<|sets 10 (x:=true) (z:=1) (L:=((((List.map (SV.int .i64) l)).take (((l).length:Int):Int).toNat).drop (0:Int).toNat)) (L':=(L14 l)) kr cut0<|ka [(7,.t)] 3 6 [13,4] [0] [⟨(∀ y∈([.i e] : List SV),ElemOk y)/\(true=true->1<=([.i e] : List SV).length/\∀ x∈((L14 l):List SV),ElemOk x)/\(((L14 l):List SV).length + ([.i e] : List SV).length) * 8<=140737488355328/\((L14 l):List SV).length + ([.i e] : List SV).length<=4611686018427387904,⟨(by intro y hy; simp at hy; first | (subst hy; rfl) | (rcases hy with rfl | rfl <;> rfl)),(fun _=>⟨lw,elem_map⟩),lw,lw⟩⟩]<|setr 0 (z:=1) (E:=3) (L:=(((L14 l))++([.i e]))) (L':=(L15 l e)) kr app_one<|kA [] 1 9 ⟨[(4,.own 0)],[(0,.row 1 3 (L15 l e))],1⟩ []<|en<|an<|xw_ret<|bk_ret (.own 0) (sN ((l.take (((l.length:Int):Int).toNat))++[e])) (sN (l++[e])) kr kr (wk_s [(1,⟨(L15 l e)=(List.map (SV.int .i64) (l++[e])),(by first | rfl | (simp; done))⟩)]) rfl
set_option maxHeartbeats 8000000 in
set_option maxHeartbeats 8000000 in
theorem aans (W:Int)(xs ys:List Int)(f0 f1 f2 t0 t1 t2 sz lm:Int)(ts:List Th)(ph scn fl:Int)(os:List Int)(brk th e v:Int)(yes:Bool)(hp0:I6 W)(hp1:U64s xs)(hp2:U64s ys)(hp3:I6 f0)(hp4:I6 f1)(hp5:I6 f2)(hp6:I6 t0)(hp7:I6 t1)(hp8:I6 t2)(hp9:I6 sz)(hp10:I6 lm)(hp11:Ths ts)(hp12:(ts.length:Int) * 144<=140737488355000)(hp13:I6 ph)(hp14:I6 scn)(hp15:I6 fl)(hp16:I64s os)(hp17:(os.length:Int) * 8<=140737488355000)(hp18:I6 brk)(hp19:I6 th)(hp20:I6 e)(hp21:U6 v):Pub Tryz.prog 28 [.agg (hp W xs ys f0 f1 f2 t0 t1 t2 sz lm ts ph scn fl os brk),.i th,.agg [.i e,.u v,.bool yes]] (fun rv=>((¬ (0<=th/\th<(ts.length:Int)))/\rv = .agg (hp W xs ys f0 f1 f2 t0 t1 t2 sz lm ts ph scn fl os brk))\/((0<=th/\th<(ts.length:Int))/\(0<((L4 ts th).length:Int))/\rv = .agg (hp W xs ys f0 f1 f2 t0 t1 t2 sz lm (L7 ts th e v yes) ph scn fl (os++[th]) brk))\/((0<=th/\th<(ts.length:Int))/\(((L4 ts th).length:Int)=0)/\rv = .agg (hp W xs ys f0 f1 f2 t0 t1 t2 sz lm (L11 ts th e v yes) ph scn fl (os++[th]) brk))):=by
 refine pub_of TT_ok Tryz.func28 rfl (by decide) nk kr<|kb [] 3 [6,5,3,1] [2,1,0] []<|xw_seq<|xw_seq<|reg<|ka [(1,.bool (decide (th<0)))] 3 0 [10,6,5,3,1] [2,1,0] [sf (decide (th<0))]<|splitr 10 (x:=(decide (th<0))) kr (fun h0=>?_) (fun h0=>?_)
 ·
  replace h0:th<0:=of_decide_eq_true h0
  exact ka [] 6 3 [16,6,5,3,1] [2,1,0] [tr]<|en<|an<|ct<|kB [] 2 ⟨[(6,.p 2),(5,.p 1),(3,.p 0),(1,.i th)],[(2,.cells (hp W xs ys f0 f1 f2 t0 t1 t2 sz lm ts ph scn fl os brk) 32),(1,.cells [.i e,.u v,.bool yes] 54),(0,.cells (hp W xs ys f0 f1 f2 t0 t1 t2 sz lm ts ph scn fl os brk) 32)],3⟩ [tr,tr]<|xw_ret<|an_ret<|bs (.agg (hp W xs ys f0 f1 f2 t0 t1 t2 sz lm ts ph scn fl os brk)) (Or.inl <| ⟨om,rfl⟩)
 ·
  replace h0:¬ (th<0):=of_decide_eq_false h0
  refine ka [(6,.i ((ts).length:Int)),(7,.bool (decide (((ts).length:Int)<=th)))] 6 3 [16,6,5,3,1] [2,1,0] [tr,l6 thS ts,sf (decide (((ts).length:Int)<=th)),tr]<|en<|an<|xcD (((ts).length:Int)<=th) (fun h1=>?_) (fun h1=>?_)
  ·
   exact kB [] 2 ⟨[(6,.p 2),(5,.p 1),(3,.p 0),(1,.i th)],[(2,.cells (hp W xs ys f0 f1 f2 t0 t1 t2 sz lm ts ph scn fl os brk) 32),(1,.cells [.i e,.u v,.bool yes] 54),(0,.cells (hp W xs ys f0 f1 f2 t0 t1 t2 sz lm ts ph scn fl os brk) 32)],3⟩ [tr,tr]<|xw_ret<|an_ret<|bs (.agg (hp W xs ys f0 f1 f2 t0 t1 t2 sz lm ts ph scn fl os brk)) (Or.inl <| ⟨om,rfl⟩)
  ·
   refine xw_skip<|an<|xw_seq<|reg<|kA [(3,.agg (tc (thA ts th)))] 4 0 ⟨[(21,.elt (.agg (tc (thA ts th)))),(6,.p 2),(5,.p 1),(3,.p 0),(1,.i th)],[(2,.cells zh 32),(1,.cells [.i e,.u v,.bool yes] 54),(0,.cells (hp W xs ys f0 f1 f2 t0 t1 t2 sz lm ts ph scn fl os brk) 32)],3⟩ [tr,⟨(0:Int)<=th/\th<((((List.map thS ts)).length:Nat):Int)/\((List.map thS ts))[(th:Int).toNat]? = some (.agg (tc (thA ts th))),(ix_th om lw)⟩] ?_
   have h2:U64s (Th.st (thA ts th)):=(Ths.at rq _).1
   have h3:((Th.st (thA ts th)).length:Int) * 8<=140737488355000:=(Ths.at rq _).2.1
   have h4:(I6 (Th.b0 (thA ts th))):=(Ths.at rq _).2.2.1
   have h5:(I6 (Th.b1 (thA ts th))):=(Ths.at rq _).2.2.2.1
   have h6:Ents (L10 ts th):=(Ths.at rq _).2.2.2.2.1
   have h7:((L10 ts th).length:Int) * 16<=140737488355000:=(Ths.at rq _).2.2.2.2.2.1
   have h8:Ops (L4 ts th):=(Ths.at rq _).2.2.2.2.2.2.1
   have h9:((L4 ts th).length:Int) * 64<=140737488355000:=(Ths.at rq _).2.2.2.2.2.2.2.1
   have h10:Ents (L12 ts th):=(Ths.at rq _).2.2.2.2.2.2.2.2.1
   have h11:((L12 ts th).length:Int) * 16<=140737488355000:=(Ths.at rq _).2.2.2.2.2.2.2.2.2.1
   have h12:Anss (Th.dn (thA ts th)):=(Ths.at rq _).2.2.2.2.2.2.2.2.2.2.1
   have h13:((Th.dn (thA ts th)).length:Int) * 24<=140737488355000:=(Ths.at rq _).2.2.2.2.2.2.2.2.2.2.2
   refine ka [] 3 4 [7,6,5,3,1] [3,2,1,0] [tr,tr]<|en<|an<|xw_seq<|reg<|ka [] 3 0 [25,24,7,6,3,1] [3,2,0] [tr,tr]<|pc (abeha (Th.dn (thA ts th)) e v yes om)<|ka [] 2 4 [7,6,3,1] [3,2,0] [tr]<|en<|an<|xw_seq<|kB [(2,.i (((L4 ts th)).length:Int)),(3,.bool (decide (0<(((L4 ts th)).length:Int))))] 4 ⟨[(31,.bool (decide (0<(((L4 ts th)).length:Int)))),(7,.p 3),(6,.p 2),(3,.p 0),(1,.i th)],[(3,.cells (L6 ts th e v yes) 42),(2,.cells zh 32),(0,.cells (hp W xs ys f0 f1 f2 t0 t1 t2 sz lm ts ph scn fl os brk) 32)],4⟩ [tr,l6 opS (L4 ts th),sf (decide (0<(((L4 ts th)).length:Int)))]<|xcD (0<(((L4 ts th)).length:Int)) (fun h14=>?_) (fun h14=>?_)
   ·
    exact reg<|ka [(4,.i (((L4 ts th)).length:Int)),(7,.i (((L4 ts th)).length:Int))] 9 0 [40,7,6,3,1] [3,2,0] [tr,tr,l6 opS (L4 ts th),tr,l6 opS (L4 ts th),⟨(0:Int)<=1/\1<=(((L4 ts th)).length:Int)/\(((L4 ts th)).length:Int)=(((L4 ts th)).length:Int)/\(((L4 ts th)).length:Int)<=((((List.map opS (L4 ts th))).length:Nat):Int),⟨om,om,om,lw⟩⟩]<|sets 40 (x:=true) (z:=8) (L:=((((List.map opS (L4 ts th))).take ((((L4 ts th)).length:Int):Int).toNat).drop (1:Int).toNat)) (L':=(L8 ts th)) kr mapf_cut<|ka [] 2 9 [7,6,3,1] [3,2,0] [tr]<|en<|an<|xw_seq<|reg<|ka [] 4 0 [45,44,43,6,3,1] [2,0] [tr,tr]<|pcall1 (args:=[(sT ts),.i th,.agg [(s64 (Th.st (thA ts th))),.i (Th.b0 (thA ts th)),.i (Th.b1 (thA ts th)),(sE (L10 ts th)),.sl true 8 (L8 ts th),(sE (L12 ts th)),.bool (Th.wt (thA ts th)),(sA (L5 ts th e v yes))]]) (args':=[(sT ts),.i th,.agg (tcs (Th.st (thA ts th)) (Th.b0 (thA ts th)) (Th.b1 (thA ts th)) (L10 ts th) (((L4 ts th).take ((((L4 ts th).length:Int):Int).toNat)).drop ((1:Int).toNat)) (L12 ts th) (Th.wt (thA ts th)) (L5 ts th e v yes))]) (d:=(some 46)) (sv:=(sT (L2 ts th e v yes))) kr (awith ts th (Th.st (thA ts th)) (Th.b0 (thA ts th)) (Th.b1 (thA ts th)) (L10 ts th) (((L4 ts th).take ((((L4 ts th).length:Int):Int).toNat)).drop ((1:Int).toNat)) (L12 ts th) (Th.wt (thA ts th)) (L5 ts th e v yes) om om om) [fi,sm ((List.map thS ts):List SV),sm (th:Int),fi,sm ((m64 (Th.st (thA ts th))):List SV),sm ((Th.b0 (thA ts th)):Int),sm ((Th.b1 (thA ts th)):Int),fi,sm ((List.map entS (L10 ts th)):List SV),(false=true->true=true),sm ((L8 ts th):List SV),fi,sm ((List.map entS (L12 ts th)):List SV),sm (Th.wt (thA ts th)),fi,sm ((List.map ansS (L5 ts th e v yes)):List SV)] kr ⟨id,rfl,rfl,id,rfl,rfl,rfl,id,rfl,(fun h=>by cases h),rfl,id,rfl,rfl,id,rfl,trivial⟩ kr<|kA [] 2 5 ⟨[(6,.p 2),(3,.p 0),(1,.i th)],[(2,.cells zh 32),(0,.cells (hp W xs ys f0 f1 f2 t0 t1 t2 sz lm (L2 ts th e v yes) ph scn fl os brk) 32)],4⟩ [tr]<|en<|an<|xw_seq<|reg<|ka [] 3 0 [50,49,6,3] [2,0] [tr]<|pc (abehi os th om)<|ka [] 2 4 [6,3] [2,0] [tr]<|en<|an<|kb [] 2 [6] [2] [tr,tr]<|xw_ret<|br (.agg (hp W xs ys f0 f1 f2 t0 t1 t2 sz lm (L2 ts th e v yes) ph scn fl (os++[th]) brk)) (.agg (hp W xs ys f0 f1 f2 t0 t1 t2 sz lm (L7 ts th e v yes) ph scn fl (os++[th]) brk)) (wk_s [(14,⟨(List.map thS (L2 ts th e v yes))=(List.map thS (L7 ts th e v yes)),(by first | rfl | (simp [tN]; done))⟩)]) (Or.inr <| Or.inl <| ⟨om,om,rfl⟩)
   ·
    exact xw_skip<|an<|xw_seq<|reg<|ka [] 4 0 [45,44,43,6,3,1] [2,0] [tr,tr]<|pcall1 (args:=[(sT ts),.i th,.agg (L6 ts th e v yes)]) (args':=[(sT ts),.i th,.agg (L6 ts th e v yes)]) (d:=(some 46)) (sv:=(sT (L3 ts th e v yes))) kr (awith ts th (Th.st (thA ts th)) (Th.b0 (thA ts th)) (Th.b1 (thA ts th)) (L10 ts th) (L4 ts th) (L12 ts th) (Th.wt (thA ts th)) (L5 ts th e v yes) om om om) [fi,sm ((List.map thS ts):List SV),sm (th:Int),fi,sm ((m64 (Th.st (thA ts th))):List SV),sm ((Th.b0 (thA ts th)):Int),sm ((Th.b1 (thA ts th)):Int),fi,sm ((List.map entS (L10 ts th)):List SV),fi,sm ((List.map opS (L4 ts th)):List SV),fi,sm ((List.map entS (L12 ts th)):List SV),sm (Th.wt (thA ts th)),fi,sm ((List.map ansS (L5 ts th e v yes)):List SV)] kr ⟨id,rfl,rfl,id,rfl,rfl,rfl,id,rfl,id,rfl,id,rfl,rfl,id,rfl,trivial⟩ kr<|ka [] 2 5 [6,3,1] [2,0] [tr]<|en<|an<|xw_seq<|reg<|ka [] 3 0 [50,49,6,3] [2,0] [tr]<|pc (abehi os th om)<|kA [] 2 4 ⟨[(6,.p 2),(3,.p 0)],[(2,.cells zh 32),(0,.cells (hp W xs ys f0 f1 f2 t0 t1 t2 sz lm (L3 ts th e v yes) ph scn fl (os++[th]) brk) 32)],4⟩ [tr]<|en<|an<|kb [] 2 [6] [2] [tr,tr]<|xw_ret<|br (.agg (hp W xs ys f0 f1 f2 t0 t1 t2 sz lm (L3 ts th e v yes) ph scn fl (os++[th]) brk)) (.agg (hp W xs ys f0 f1 f2 t0 t1 t2 sz lm (L11 ts th e v yes) ph scn fl (os++[th]) brk)) (wk_s [(14,⟨(List.map thS (L3 ts th e v yes))=(List.map thS (L11 ts th e v yes)),(by first | rfl | (simp [tN]; done))⟩)]) (Or.inr <| Or.inr <| ⟨om,om,rfl⟩)
theorem aans_2 (W:Int)(xs ys:List Int)(f0 f1 f2 t0 t1 t2 sz lm:Int)(ts:List Th)(ph scn fl:Int)(os:List Int)(brk th e v:Int)(yes:Bool)(hp0:I6 W)(hp1:U64s xs)(hp2:U64s ys)(hp3:I6 f0)(hp4:I6 f1)(hp5:I6 f2)(hp6:I6 t0)(hp7:I6 t1)(hp8:I6 t2)(hp9:I6 sz)(hp10:I6 lm)(hp11:Ths ts)(hp12:(ts.length:Int) * 144<=140737488355000)(hp13:I6 ph)(hp14:I6 scn)(hp15:I6 fl)(hp16:I64s os)(hp17:(os.length:Int) * 8<=140737488355000)(hp18:I6 brk)(hp19:I6 th)(hp20:I6 e)(hp21:U6 v)(hp22:0<=th/\th<(ts.length:Int))(hp23:0<((L4 ts th).length:Int)):Pub Tryz.prog 28 [.agg (hp W xs ys f0 f1 f2 t0 t1 t2 sz lm ts ph scn fl os brk),.i th,.agg [.i e,.u v,.bool yes]] (fun rv=>rv = .agg (hp W xs ys f0 f1 f2 t0 t1 t2 sz lm (L7 ts th e v yes) ph scn fl (os++[th]) brk)) :=
  (aans W xs ys f0 f1 f2 t0 t1 t2 sz lm ts ph scn fl os brk th e v yes hp0 hp1 hp2 hp3 hp4 hp5 hp6 hp7 hp8 hp9 hp10 hp11 hp12 hp13 hp14 hp15 hp16 hp17 hp18 hp19 hp20 hp21).mono vr
theorem awr (k h i j v t f m:Int)(hp0:I6 k):Pub Tryz.prog 14 [.agg [.i k,.i h,.i i,.i j,.u v,.i t,.i f,.u m]] (fun rv=>rv = .bool (wrB k)):=by
 refine pub_of TT_ok Tryz.func14 rfl (by decide) nk kr<|kb [] 2 [2,1] [0] []<|xw_seq<|reg<|ka [(2,.bool (k == 4))] 4 0 [6,2,1] [0] [tr,sf (k == 4)]<|splitr 6 (x:=(k == 4)) kr (fun h0=>?_) (fun h0=>?_)
 ·
  replace h0:k=4:=eq_of_beq h0
  exact ka [] 15 4 [2] [] [tr,tr,tr]<|en<|an<|xw_ret<|br (.t) (.bool (wrB k)) (wk_s [(0,⟨true=(wrB k),Lb2⟩)]) rfl
 ·
  replace h0:k≠4:=ne_of_beq_false h0
  refine ka [(6,.bool (k == 5))] 5 4 [11,2,1] [0] [tr,sf (k == 5),tr]<|splitr 11 (x:=(k == 5)) kr (fun h1=>?_) (fun h1=>?_)
  ·
   replace h1:k=5:=eq_of_beq h1
   exact kA [] 10 9 ⟨[(2,.t)],[],1⟩ [tr,tr]<|en<|an<|xw_ret<|br (.t) (.bool (wrB k)) (wk_s [(0,⟨true=(wrB k),Lb2⟩)]) rfl
  ·
   replace h1:k≠5:=ne_of_beq_false h1
   refine kA [(11,.bool (k == 6))] 5 9 ⟨[(16,.bool (k == 6)),(2,.f),(1,.p 0)],[(0,.cells [.i k,.i h,.i i,.i j,.u v,.i t,.i f,.u m] 60)],1⟩ [tr,sf (k == 6),tr]<|splitr 16 (x:=(k == 6)) kr (fun h2=>?_) (fun h2=>?_)
   ·
    replace h2:k=6:=eq_of_beq h2
    exact ka [] 5 14 [2] [] [tr]<|en<|an<|xw_ret<|br (.t) (.bool (wrB k)) (wk_s [(0,⟨true=(wrB k),Lb2⟩)]) rfl
   ·
    replace h2:k≠6:=ne_of_beq_false h2
    refine ka [(16,.bool (k == 7))] 5 14 [2] [] [tr,sf (k == 7),tr]<|en<|an<|xw_ret ?_
    by_cases h3:k=7
    ·
     exact br (.bool (k == 7)) (.bool (wrB k)) (wk_s [(0,⟨(k == 7)=(wrB k),Lb2⟩)]) rfl
    ·
     exact br (.bool (k == 7)) (.bool (wrB k)) (wk_s [(0,⟨(k == 7)=(wrB k),Lb2⟩)]) rfl
set_option maxHeartbeats 8000000 in
set_option maxHeartbeats 8000000 in
theorem acan (W:Int)(xs ys:List Int)(f0 f1 f2 t0 t1 t2 sz lm:Int)(ts:List Th)(ph scn fl:Int)(os:List Int)(brk th:Int)(hp0:I6 W)(hp1:U64s xs)(hp2:U64s ys)(hp3:I6 f0)(hp4:I6 f1)(hp5:I6 f2)(hp6:I6 t0)(hp7:I6 t1)(hp8:I6 t2)(hp9:I6 sz)(hp10:I6 lm)(hp11:Ths ts)(hp12:(ts.length:Int) * 144<=140737488355000)(hp13:I6 ph)(hp14:I6 scn)(hp15:I6 fl)(hp16:I64s os)(hp17:(os.length:Int) * 8<=140737488355000)(hp18:I6 brk)(hp19:I6 th):Pub Tryz.prog 6 [.agg (hp W xs ys f0 f1 f2 t0 t1 t2 sz lm ts ph scn fl os brk),.i th] (fun rv=>(((canB lm ph brk ts th)=false)/\rv = .f)\/(((canB lm ph brk ts th)=true)/\rv = .t)):=by
 refine pub_of TT_ok Tryz.func6 rfl (by decide) nk kr<|kb [] 2 [4,2,1] [0] []<|xw_seq<|xw_seq<|reg<|ka [(1,.bool (decide (th<0)))] 3 0 [8,4,2,1] [0] [sf (decide (th<0))]<|splitr 8 (x:=(decide (th<0))) kr (fun h0=>?_) (fun h0=>?_)
 ·
  replace h0:th<0:=of_decide_eq_true h0
  exact ka [] 11 3 [19,4,2,1] [0] [tr,tr]<|en<|an<|ct<|kB [] 1 ⟨[(4,.f),(2,.p 0),(1,.i th)],[(0,.cells (hp W xs ys f0 f1 f2 t0 t1 t2 sz lm ts ph scn fl os brk) 32)],1⟩ []<|xw_ret<|an_ret<|bs (.f) (Or.inl <| ⟨Lb1,rfl⟩)
 ·
  replace h0:¬ (th<0):=of_decide_eq_false h0
  refine ka [(6,.i ((ts).length:Int)),(7,.bool (decide (((ts).length:Int)<=th)))] 7 3 [15,4,2,1] [0] [tr,l6 thS ts,sf (decide (((ts).length:Int)<=th)),tr]<|splitr 15 (x:=(decide (((ts).length:Int)<=th))) kr (fun h1=>?_) (fun h1=>?_)
  ·
   replace h1:(ts.length:Int)<=th:=of_decide_eq_true h1
   exact kA [] 4 10 ⟨[(19,.t),(4,.f),(2,.p 0),(1,.i th)],[(0,.cells (hp W xs ys f0 f1 f2 t0 t1 t2 sz lm ts ph scn fl os brk) 32)],1⟩ [tr]<|en<|an<|ct<|kb [] 1 [4,2,1] [0] []<|xw_ret<|an_ret<|bs (.f) (Or.inl <| ⟨Lb1,rfl⟩)
  ·
   replace h1:¬ ((ts.length:Int)<=th):=of_decide_eq_false h1
   refine kA [(12,.bool (brk != 0))] 4 10 ⟨[(19,.bool (brk != 0)),(4,.f),(2,.p 0),(1,.i th)],[(0,.cells (hp W xs ys f0 f1 f2 t0 t1 t2 sz lm ts ph scn fl os brk) 32)],1⟩ [tr,sf (brk != 0),tr]<|en<|an<|xcN brk 0 (fun h2=>?_) (fun h2=>?_)
   ·
    exact kb [] 1 [4,2,1] [0] []<|xw_ret<|an_ret<|bs (.f) (Or.inl <| ⟨Lb1,rfl⟩)
   ·
    refine xw_skip<|an<|xw_seq<|reg<|ka [(3,.agg (tc (thA ts th)))] 4 0 [23,4,2] [0] [tr,⟨(0:Int)<=th/\th<((((List.map thS ts)).length:Nat):Int)/\((List.map thS ts))[(th:Int).toNat]? = some (.agg (tc (thA ts th))),(ix_th om lw)⟩] ?_
    have h3:U64s (Th.st (thA ts th)):=(Ths.at rq _).1
    have h4:((Th.st (thA ts th)).length:Int) * 8<=140737488355000:=(Ths.at rq _).2.1
    have h5:(I6 (Th.b0 (thA ts th))):=(Ths.at rq _).2.2.1
    have h6:(I6 (Th.b1 (thA ts th))):=(Ths.at rq _).2.2.2.1
    have h7:Ents (L10 ts th):=(Ths.at rq _).2.2.2.2.1
    have h8:((L10 ts th).length:Int) * 16<=140737488355000:=(Ths.at rq _).2.2.2.2.2.1
    have h9:Ops (L4 ts th):=(Ths.at rq _).2.2.2.2.2.2.1
    have h10:((L4 ts th).length:Int) * 64<=140737488355000:=(Ths.at rq _).2.2.2.2.2.2.2.1
    have h11:Ents (L12 ts th):=(Ths.at rq _).2.2.2.2.2.2.2.2.1
    have h12:((L12 ts th).length:Int) * 16<=140737488355000:=(Ths.at rq _).2.2.2.2.2.2.2.2.2.1
    have h13:Anss (Th.dn (thA ts th)):=(Ths.at rq _).2.2.2.2.2.2.2.2.2.2.1
    have h14:((Th.dn (thA ts th)).length:Int) * 24<=140737488355000:=(Ths.at rq _).2.2.2.2.2.2.2.2.2.2.2
    refine ka [] 3 4 [5,4,2] [1,0] [tr,tr]<|en<|an<|xw_seq<|xw_block<|kb [(2,.i (((L12 ts th)).length:Int)),(3,.bool (decide (0<(((L12 ts th)).length:Int))))] 5 [25,5,4,2] [1,0] [tr,l6 entS (L12 ts th),sf (decide (0<(((L12 ts th)).length:Int)))]<|xcD (0<(((L12 ts th)).length:Int)) (fun h15=>?_) (fun h15=>?_)
    ·
     exact kB [] 1 ⟨[(4,.t),(5,.p 1),(2,.p 0)],[(1,.cells (tc (thA ts th)) 42),(0,.cells (hp W xs ys f0 f1 f2 t0 t1 t2 sz lm ts ph scn fl os brk) 32)],2⟩ []<|xw_ret<|ib_ret<|an_ret<|bs (.t) (Or.inr <| ⟨Lb1,rfl⟩)
    ·
     refine xw_seq<|reg<|kA [(2,.i (((L4 ts th)).length:Int)),(3,.bool ((((L4 ts th)).length:Int) == 0))] 5 0 ⟨[(35,.bool ((((L4 ts th)).length:Int) == 0)),(5,.p 1),(4,.f),(2,.p 0)],[(1,.cells (tc (thA ts th)) 42),(0,.cells (hp W xs ys f0 f1 f2 t0 t1 t2 sz lm ts ph scn fl os brk) 32)],2⟩ [tr,l6 opS (L4 ts th),sf ((((L4 ts th)).length:Int) == 0)]<|splitr 35 (x:=((((L4 ts th)).length:Int) == 0)) kr (fun h16=>?_) (fun h16=>?_)
     ·
      replace h16:((L4 ts th).length:Int)=0:=eq_of_beq h16
      exact ka [] 9 5 [30,5,4,2] [1,0] [tr,tr]<|en<|an<|ct<|kb [] 1 [4,5,2] [1,0] []<|xw_ret<|ib_ret<|an_ret<|bs (.f) (Or.inl <| ⟨Lcb1,rfl⟩)
     ·
      replace h16:((L4 ts th).length:Int)≠0:=ne_of_beq_false h16
      refine ka [] 4 5 [39,5,4,2] [1,0] [tr,tr]<|splitr 39 (x:=(Th.wt (thA ts th))) kr (fun h17=>?_) (fun h17=>?_)
      ·
       replace h17:Th.wt (thA ts th)=true:=h17
       exact ka [] 5 9 [30,5,4,2] [1,0] [tr]<|en<|an<|ct<|kb [] 1 [4,5,2] [1,0] []<|xw_ret<|ib_ret<|an_ret<|bs (.f) (Or.inl <| ⟨Lcb1,rfl⟩)
      ·
       replace h17:Th.wt (thA ts th)=false:=h17
       refine ka [(11,.bool (ph == 2))] 5 9 [30,5,4,2] [1,0] [tr,sf (ph == 2),tr]<|en<|an<|xcE ph 2 (fun h18=>?_) (fun h18=>?_)
       ·
        exact kb [] 1 [4,5,2] [1,0] []<|xw_ret<|ib_ret<|an_ret<|bs (.f) (Or.inl <| ⟨Lcb1,rfl⟩)
       ·
        refine xw_skip<|ib<|an<|xw_seq<|reg<|ka [(2,.agg (oc (o0 ts th)))] 3 0 [46,5,4,2] [1,0] [tr,⟨(0:Int)<=0/\0<((((List.map opS (L4 ts th))).length:Nat):Int)/\((List.map opS (L4 ts th)))[(0:Int).toNat]? = some (.agg (oc (o0 ts th))),(ix_op om lw)⟩] ?_
        have h19:(I6 (OpV.k (o0 ts th))):=(Ops.at rq _).1
        have h20:(I6 (OpV.h (o0 ts th))):=(Ops.at rq _).2.1
        have h21:(I6 (OpV.i (o0 ts th))):=(Ops.at rq _).2.2.1
        have h22:(I6 (OpV.j (o0 ts th))):=(Ops.at rq _).2.2.2.1
        have h23:(U6 (OpV.v (o0 ts th))):=(Ops.at rq _).2.2.2.2.1
        have h24:(I6 (OpV.t (o0 ts th))):=(Ops.at rq _).2.2.2.2.2.1
        have h25:(I6 (OpV.l (o0 ts th))):=(Ops.at rq _).2.2.2.2.2.2.1
        have h26:(U6 (OpV.m (o0 ts th))):=(Ops.at rq _).2.2.2.2.2.2.2
        refine kA [] 1 3 ⟨[(47,.agg (oc (o0 ts th))),(5,.p 1),(4,.f),(2,.p 0)],[(1,.cells (tc (thA ts th)) 42),(0,.cells (hp W xs ys f0 f1 f2 t0 t1 t2 sz lm ts ph scn fl os brk) 32)],2⟩ [tr]<|pc (awr (OpV.k (o0 ts th)) (OpV.h (o0 ts th)) (OpV.i (o0 ts th)) (OpV.j (o0 ts th)) (OpV.v (o0 ts th)) (OpV.t (o0 ts th)) (OpV.l (o0 ts th)) (OpV.m (o0 ts th)) ZZ)<|ka [] 2 5 [50,5,4,2] [1,0] []<|splitr 50 (x:=(!(wrB (OpV.k (o0 ts th))))) kr (fun h27=>?_) (fun h27=>?_)
        ·
         replace h27:wrB (OpV.k (o0 ts th))=false:=by first | (simp; done) | simpa using h27 | (simp at h27; omega)
         exact ka [] 13 7 [4] [] [tr,tr]<|en<|an<|xw_ret<|bs (.t) (Or.inr <| ⟨Lcb1,rfl⟩)
        ·
         replace h27:wrB (OpV.k (o0 ts th))=true:=by first | (simp; done) | simpa using h27
         refine ka [(9,.bool (ph != 1))] 5 7 [55,5,4,2] [1,0] [tr,sf (ph != 1),tr]<|splitr 55 (x:=(ph != 1)) kr (fun h28=>?_) (fun h28=>?_)
         ·
          replace h28:ph≠1:=bne_iff_ne.1 h28
          exact ka [] 8 12 [4] [] [tr]<|en<|an<|xw_ret<|bs (.t) (Or.inr <| ⟨Lcb1,rfl⟩)
         ·
          replace h28:ph=1:=bne_eq_false_iff_eq.1 h28
          refine ka [(14,.i (((L10 ts th)).length:Int)),(17,.bool (decide ((((L10 ts th)).length:Int)<lm)))] 8 12 [4] [] [tr,l6 entS (L10 ts th),tr,sf (decide ((((L10 ts th)).length:Int)<lm)),tr]<|en<|an<|xw_ret ?_
          by_cases h29:((L10 ts th).length:Int)<lm
          ·
           exact br (.bool (decide ((((L10 ts th)).length:Int)<lm))) (.t) (wk_s [(0,⟨(decide ((((L10 ts th)).length:Int)<lm))=true,Lb1⟩)]) (Or.inr <| ⟨(by first | rfl | exact decide_eq_true om | exact decide_eq_false om | exact (can_1 om).symm | exact (can_2 om).symm | exact ((nx_1 om).trans (can_n om om om)).symm | exact ((nx_2 ZZ).trans (can_n om om om)).symm | exact ((nx_3 om).trans (can_n om om om)).symm | exact ((decide_eq_false om).symm.trans ((nx_6 om ZZ om (of_decide_eq_true ‹wrB _=true›) om).trans (can_n om om om))).symm | exact (can_3 om om om).symm | exact ((nx_4 om ZZ om (of_decide_eq_false ‹wrB _=false›)).trans (can_n om om om)).symm | exact ((nx_5 om ZZ om om).trans (can_n om om om)).symm | exact ((decide_eq_true om).symm.trans ((nx_6 Lo ZZ om (of_decide_eq_true ‹wrB _=true›) om).trans (can_n om om Lo))).symm),rfl⟩)
          ·
           exact br (.bool (decide ((((L10 ts th)).length:Int)<lm))) (.f) (wk_s [(0,⟨(decide ((((L10 ts th)).length:Int)<lm))=false,Lb1⟩)]) (Or.inl <| ⟨Lcb1,rfl⟩)
theorem acan_1 (W:Int)(xs ys:List Int)(f0 f1 f2 t0 t1 t2 sz lm:Int)(ts:List Th)(ph scn fl:Int)(os:List Int)(brk th:Int)(hp0:I6 W)(hp1:U64s xs)(hp2:U64s ys)(hp3:I6 f0)(hp4:I6 f1)(hp5:I6 f2)(hp6:I6 t0)(hp7:I6 t1)(hp8:I6 t2)(hp9:I6 sz)(hp10:I6 lm)(hp11:Ths ts)(hp12:(ts.length:Int) * 144<=140737488355000)(hp13:I6 ph)(hp14:I6 scn)(hp15:I6 fl)(hp16:I64s os)(hp17:(os.length:Int) * 8<=140737488355000)(hp18:I6 brk)(hp19:I6 th)(hp20:(canB lm ph brk ts th)=false):Pub Tryz.prog 6 [.agg (hp W xs ys f0 f1 f2 t0 t1 t2 sz lm ts ph scn fl os brk),.i th] (fun rv=>rv = .f) :=
  (acan W xs ys f0 f1 f2 t0 t1 t2 sz lm ts ph scn fl os brk th hp0 hp1 hp2 hp3 hp4 hp5 hp6 hp7 hp8 hp9 hp10 hp11 hp12 hp13 hp14 hp15 hp16 hp17 hp18 hp19).mono vr
theorem acan_2 (W:Int)(xs ys:List Int)(f0 f1 f2 t0 t1 t2 sz lm:Int)(ts:List Th)(ph scn fl:Int)(os:List Int)(brk th:Int)(hp0:I6 W)(hp1:U64s xs)(hp2:U64s ys)(hp3:I6 f0)(hp4:I6 f1)(hp5:I6 f2)(hp6:I6 t0)(hp7:I6 t1)(hp8:I6 t2)(hp9:I6 sz)(hp10:I6 lm)(hp11:Ths ts)(hp12:(ts.length:Int) * 144<=140737488355000)(hp13:I6 ph)(hp14:I6 scn)(hp15:I6 fl)(hp16:I64s os)(hp17:(os.length:Int) * 8<=140737488355000)(hp18:I6 brk)(hp19:I6 th)(hp20:(canB lm ph brk ts th)=true):Pub Tryz.prog 6 [.agg (hp W xs ys f0 f1 f2 t0 t1 t2 sz lm ts ph scn fl os brk),.i th] (fun rv=>rv = .t) :=
  (acan W xs ys f0 f1 f2 t0 t1 t2 sz lm ts ph scn fl os brk th hp0 hp1 hp2 hp3 hp4 hp5 hp6 hp7 hp8 hp9 hp10 hp11 hp12 hp13 hp14 hp15 hp16 hp17 hp18 hp19).mono vr
end Go.Proofs.YtmmfpkkamgapkaaGreat.X
