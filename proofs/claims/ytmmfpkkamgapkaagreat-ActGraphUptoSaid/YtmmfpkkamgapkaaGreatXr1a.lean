/- Contracts of Go functions: what each returns,for every input that its premises name; no memory of the caller is touched. Printed by a program. -/
import Derived.Test.YtmmfpkkamgapkaaGreatXt
import Derived.Test.YtmmfpkkamgapkaaGreatXq2
import Derived.Test.YtmmfpkkamgapkaaGreatXg4
namespace Go.Proofs.YtmmfpkkamgapkaaGreat.X
open Go Go.RowKit
set_option linter.unusedVariables false
set_option linter.unusedSimpArgs false
abbrev Q1(ts:List Th)(i1:Int):List SV:=[.sl false 1 (m64 (Th.st (thA ts i1))),.i (Th.b0 (thA ts i1)),.i (Th.b1 (thA ts i1)),.sl false 2 (List.map entS (Th.lg (thA ts i1))),.sl false 8 (List.map opS (Th.lf (thA ts i1))),.sl false 2 (List.map entS (Th.pd (thA ts i1))),.bool (Th.wt (thA ts i1)),.sl false 3 (List.map ansS (Th.dn (thA ts i1)))]
abbrev Q2(l:List Int):Nat×SV:=(0,.sl false 1 (List.map (SV.int .i64) l))
abbrev Q3(ts:List Th)(i1:Int):=List.map rowU [(Th.st (thA ts i1))]
abbrev Q4(ts:List Th)(i1:Int):=List.map rowU (thR ts i1)
theorem Qb3{p:Prop}(h:p:=by first | rfl | omega | exact pi0_at om om ZZ om | exact pi0_no (i:=i1) om ZZ):p:=h
theorem Qb2{p:Prop}(h:p:=by first | exact hasB_0 _ | exact hasB_next om om ZZ om):p:=h
theorem Qb1{p:Prop}(h:p:=by first | rfl | omega | exact plc_at om om om ZZ om | exact plc_no (i:=i1) om om ZZ | (rw [show a=0 by omega]; exact plc_0)):p:=h
set_option maxHeartbeats 8000000 in
theorem rrows (W:Int)(xs ys:List Int)(f0 f1 f2 t0 t1 t2 sz lm:Int)(ts:List Th)(ph scn fl:Int)(os:List Int)(brk:Int)(hp0:I6 W)(hp1:U64s xs)(hp2:U64s ys)(hp3:I6 f0)(hp4:I6 f1)(hp5:I6 f2)(hp6:I6 t0)(hp7:I6 t1)(hp8:I6 t2)(hp9:I6 sz)(hp10:I6 lm)(hp11:Ths ts)(hp12:(ts.length:Int) * 144<=140737488355000)(hp13:I6 ph)(hp14:I6 scn)(hp15:I6 fl)(hp16:I64s os)(hp17:(os.length:Int) * 8<=140737488355000)(hp18:I6 brk):Pub Tryz.prog 8 [.agg (mr W xs ys [.i f0,.i f1,.i f2,.i t0,.i t1,.i t2,.i sz,.i lm,.sl false 8 (List.map thS ts),.i ph,.i scn,.i fl,.sl false 1 (List.map (SV.int .i64) os),.i brk])] (fun rv=>rv = .sl false 1 (List.map rowU (List.map Th.st ts))):=by
 refine pub_of TT_ok Tryz.func8 rfl (by decide) nk kr<|kb [] 2 [2,1] [0] []<|kb [] 1 [3,2,1] [0] []<|xw_seq<|kb [] 1 [4,3,2,1] [0] []<|xw_block<|xw_nilrow 3 1 22 kr<|xw_loop (α:={q:Int // (0<=q)/\(q<=(ts.length:Int))}) (fun p=>⟨[(3,.own 1),(4,.i p.1),(2,.nils),(1,.p 0)],[(1,.row 1 22 (List.map rowU (thR ts p.1))),(0,.cells (mr W xs ys [.i f0,.i f1,.i f2,.i t0,.i t1,.i t2,.i sz,.i lm,.sl false 8 (List.map thS ts),.i ph,.i scn,.i fl,.sl false 1 (List.map (SV.int .i64) os),.i brk]) 32)],2⟩) (fun p=>((ts.length:Int) - p.1).toNat) ⟨0,⟨om,om⟩⟩ (le_s [] [(1,⟨((m64 []):List SV)=(List.map rowU (thR ts 0)),(by first | rfl | exact congrArg _ (thR_next om om) | omega)⟩)]) ?_
 rintro ⟨i1,h0,h1⟩
 show XW _ _ _ _ _ _ ⟨[(3,.own 1),(4,.int .i64 i1),(2,.nils),(1,.loc 0 0)],[(1,.row 1 22 (Q4 ts i1)),(0,.cells (mr W xs ys [.int .i64 f0,.int .i64 f1,.int .i64 f2,.int .i64 t0,.int .i64 t1,.int .i64 t2,.int .i64 sz,.int .i64 lm,.sl false 8 (List.map thS ts),.int .i64 ph,.int .i64 scn,.int .i64 fl,.sl false 1 (List.map (SV.int .i64) os),.int .i64 brk]) 32)],2⟩
 have h2:((thR ts i1).length:Int)<=(ts.length:Int):=thR_len
 refine xw_seq<|kb [(3,.i ((ts).length:Int)),(4,.bool (decide (i1<((ts).length:Int))))] 5 [9,3,4,2,1] [1,0] [tr,l6 thS ts,sf (decide (i1<((ts).length:Int)))]<|xcD (i1<((ts).length:Int)) (fun h3=>?_) (fun h3=>?_)
 ·
  refine xw_skip<|an<|xw_seq<|xw_block<|reg<|ka [(4,.agg (Q1 ts i1))] 5 0 [16,12,3,4,2,1] [1,0] [tr,⟨(0:Int)<=i1/\i1<((((List.map thS ts)).length:Nat):Int)/\((List.map thS ts))[(i1:Int).toNat]? = some (.agg (Q1 ts i1)),(ix_th om lw)⟩] ?_
  have h4:U64s (Th.st (thA ts i1)):=(Ths.at rq _).1
  have h5:((Th.st (thA ts i1)).length:Int) * 8<=140737488355000:=(Ths.at rq _).2.1
  have h6:(I6 (Th.b0 (thA ts i1))):=(Ths.at rq _).2.2.1
  have h7:(I6 (Th.b1 (thA ts i1))):=(Ths.at rq _).2.2.2.1
  have h8:Ents (Th.lg (thA ts i1)):=(Ths.at rq _).2.2.2.2.1
  have h9:((Th.lg (thA ts i1)).length:Int) * 16<=140737488355000:=(Ths.at rq _).2.2.2.2.2.1
  have h10:Ops (Th.lf (thA ts i1)):=(Ths.at rq _).2.2.2.2.2.2.1
  have h11:((Th.lf (thA ts i1)).length:Int) * 64<=140737488355000:=(Ths.at rq _).2.2.2.2.2.2.2.1
  have h12:Ents (Th.pd (thA ts i1)):=(Ths.at rq _).2.2.2.2.2.2.2.2.1
  have h13:((Th.pd (thA ts i1)).length:Int) * 16<=140737488355000:=(Ths.at rq _).2.2.2.2.2.2.2.2.2.1
  have h14:Anss (Th.dn (thA ts i1)):=(Ths.at rq _).2.2.2.2.2.2.2.2.2.2.1
  have h15:((Th.dn (thA ts i1)).length:Int) * 24<=140737488355000:=(Ths.at rq _).2.2.2.2.2.2.2.2.2.2.2
  exact ka [(7,.t)] 4 5 [20,3,4,2,1] [2,0] [tr,⟨(∀ y∈((Q3 ts i1):List SV),ElemOk y)/\(false=true->1<=((Q3 ts i1):List SV).length/\∀ x∈((Q4 ts i1):List SV),ElemOk x)/\(((Q4 ts i1):List SV).length + ((Q3 ts i1):List SV).length) * 24<=140737488355328/\((Q4 ts i1):List SV).length + ((Q3 ts i1):List SV).length<=4611686018427387904,⟨elem_ru,(fun h=>by cases h),lw,lw⟩⟩]<|setr 2 (z:=1) (E:=22) (L:=(((Q4 ts i1))++((Q3 ts i1)))) (L':=(List.map rowU ((thR ts i1)++[(Th.st (thA ts i1))]))) kr mapf_app<|kA [] 1 9 ⟨[(3,.own 2),(4,.i i1),(2,.nils),(1,.p 0)],[(2,.row 1 22 (List.map rowU ((thR ts i1)++[(Th.st (thA ts i1))]))),(0,.cells (mr W xs ys [.i f0,.i f1,.i f2,.i t0,.i t1,.i t2,.i sz,.i lm,.sl false 8 (List.map thS ts),.i ph,.i scn,.i fl,.sl false 1 (List.map (SV.int .i64) os),.i brk]) 32)],3⟩ []<|en<|ib<|an<|kc [(1,.i (i1 + 1))] 3 [4,3,2,1] [2,0] [w6 (i1 + 1)]<|ag ⟨(i1 + 1),⟨om,om⟩⟩ (le_s [(1,2)] [(1,⟨((List.map rowU ((thR ts i1)++[(Th.st (thA ts i1))])):List SV)=(List.map rowU (thR ts (i1 + 1))),(by first | rfl | exact congrArg _ (thR_next om om) | omega)⟩)]) dm
 ·
  exact xw_exit<|an_exit<|ag_exit<|ib_same<|an<|kb [] 2 [2] [1] []<|xw_ret<|bk_ret (.own 1) (.sl false 1 (Q4 ts i1)) (.sl false 1 (List.map rowU (List.map Th.st ts))) kr kr (wk_s [(1,⟨(Q4 ts i1)=(List.map rowU (List.map Th.st ts)),(by first | rfl | exact congrArg _ (thR_end om))⟩)]) rfl
theorem rjoin (rs:List (List Int))(hp0:RUs rs)(hp1:(rs.length:Int) * 24<=140737488355000)(hp2:(rs.flatten.length:Int) * 8<=140737488355000):Pub Tryz.prog 16 [.sl false 1 (List.map rowU rs)] (fun rv=>rv = .sl false 1 (m64 rs.flatten)):=by
 refine pub_of TT_ok Tryz.func16 rfl (by decide) nk kr<|kb [] 1 [2,0] [] []<|kb [] 1 [3,2,0] [] []<|xw_seq<|kb [] 1 [4,3,2,0] [] []<|xw_block<|xw_nilrow 3 1 52 kr<|xw_loop (α:={q:Int // (0<=q)/\(q<=(rs.length:Int))}) (fun p=>⟨[(3,.own 0),(4,.i p.1),(2,.nils),(0,.sl false 1 (List.map rowU rs))],[(0,.row 1 52 (m64 (jnR rs p.1)))],1⟩) (fun p=>((rs.length:Int) - p.1).toNat) ⟨0,⟨om,om⟩⟩ (le_s [] [(3,⟨((m64 []):List SV)=(m64 (jnR rs 0)),(by first | rfl | exact congrArg _ (jnR_next om om) | omega)⟩)]) ?_
 rintro ⟨i1,h0,h1⟩
 show XW _ _ _ _ _ _ ⟨[(3,.own 0),(4,.int .i64 i1),(2,.nils),(0,.sl false 1 (List.map rowU rs))],[(0,.row 1 52 (m64 (jnR rs i1)))],1⟩
 have h2:((jnR rs i1).length:Int)<=(rs.flatten.length:Int):=jnR_len
 have h3:(rs.length:Int)<=i1\/((jnR rs i1).length:Int) + ((rowG rs i1).length:Int)<=(rs.flatten.length:Int):=jnR_len2 om
 refine xw_seq<|kb [(2,.i ((rs).length:Int)),(3,.bool (decide (i1<((rs).length:Int))))] 4 [8,3,4,2,0] [0] [l6 rowU rs,sf (decide (i1<((rs).length:Int)))]<|xcD (i1<((rs).length:Int)) (fun h4=>?_) (fun h4=>?_)
 ·
  refine xw_skip<|an<|xw_seq<|xw_block<|reg<|ka [(3,.sl false 1 (m64 (rowG rs i1)))] 4 0 [14,11,3,4,2,0] [0] [⟨(0:Int)<=i1/\i1<((((List.map rowU rs)).length:Nat):Int)/\((List.map rowU rs))[(i1:Int).toNat]? = some (.sl false 1 (m64 (rowG rs i1))),(ix_ru om lw)⟩] ?_
  have h5:U64s (rowG rs i1):=(RUs.at rq _).1
  have h6:((rowG rs i1).length:Int) * 8<=140737488355000:=(RUs.at rq _).2
  exact ka [] 2 4 [16,3,4,2,0] [1] [tr,⟨(∀ y∈((m64 (rowG rs i1)):List SV),ElemOk y)/\(false=true->1<=((m64 (rowG rs i1)):List SV).length/\∀ x∈((m64 (jnR rs i1)):List SV),ElemOk x)/\(((m64 (jnR rs i1)):List SV).length + ((m64 (rowG rs i1)):List SV).length) * 8<=140737488355328/\((m64 (jnR rs i1)):List SV).length + ((m64 (rowG rs i1)):List SV).length<=4611686018427387904,⟨elem_map,(fun h=>by cases h),lw,lw⟩⟩]<|setr 1 (z:=1) (E:=52) (L:=(((m64 (jnR rs i1)))++((m64 (rowG rs i1))))) (L':=(m64 ((jnR rs i1)++(rowG rs i1)))) kr append_map<|kA [] 1 6 ⟨[(3,.own 1),(4,.i i1),(2,.nils),(0,.sl false 1 (List.map rowU rs))],[(1,.row 1 52 (m64 ((jnR rs i1)++(rowG rs i1))))],2⟩ []<|en<|ib<|an<|kc [(1,.i (i1 + 1))] 3 [4,3,2,0] [1] [w6 (i1 + 1)]<|ag ⟨(i1 + 1),⟨om,om⟩⟩ (le_s [(0,1)] [(3,⟨((m64 ((jnR rs i1)++(rowG rs i1))):List SV)=(m64 (jnR rs (i1 + 1))),(by first | rfl | exact congrArg _ (jnR_next om om) | omega)⟩)]) dm
 ·
  exact xw_exit<|an_exit<|ag_exit<|ib_same<|an<|kb [] 2 [2] [0] []<|xw_ret<|bk_ret (.own 0) (.sl false 1 (m64 (jnR rs i1))) (.sl false 1 (m64 rs.flatten)) kr kr (wk_s [(1,⟨(m64 (jnR rs i1))=(m64 rs.flatten),(by first | rfl | exact congrArg _ (jnR_end om))⟩)]) rfl
theorem rplace (l:List Int)(a:Int)(hp0:U64s l)(hp1:(l.length:Int)<=1000000)(hp2:U6 a):Pub Tryz.prog 19 [.sl false 1 (m64 l),.u a] (fun rv=>rv = .i (plc l a)):=by
 refine pub_of TT_ok Tryz.func19 rfl (by decide) nk kr<|kb [] 1 [4,0,1] [] []<|xw_seq<|kb [(1,.bool (a == 0))] 2 [7,4,0,1] [] [sf (a == 0)]<|xcE a 0 (fun h0=>?_) (fun h0=>?_)
 ·
  exact kb [] 1 [4,0,1] [] []<|xw_ret<|an_ret<|br (.i 0) (.i (plc l a)) (wk_s [(0,⟨(0:Int)=(plc l a),Qb1⟩)]) rfl
 ·
  refine xw_skip<|an<|xw_seq<|kb [] 1 [5,4,0,1] [] []<|xw_block<|xw_loop (α:={q:Int // (0<=q)/\(q<=(l.length:Int))/\(hasB (l.take (Int.toNat q)) a=false)}) (fun p=>⟨[(5,.i p.1),(4,.i 0),(0,.sl false 1 (m64 l)),(1,.u a)],[],0⟩) (fun p=>((l.length:Int) - p.1).toNat) ⟨0,⟨om,om,Qb2⟩⟩ (le_s []) ?_
  rintro ⟨i1,h1,h2,h3⟩
  show XW _ _ _ _ _ _ ⟨[(5,.int .i64 i1),(4,.int .i64 0),(0,.sl false 1 (m64 l)),(1,.int .u64 a)],[],0⟩
  refine xw_seq<|kb [(2,.i ((l).length:Int)),(3,.bool (decide (i1<((l).length:Int))))] 4 [11,5,4,0,1] [] [l6 (SV.int .u64) l,sf (decide (i1<((l).length:Int)))]<|xcD (i1<((l).length:Int)) (fun h4=>?_) (fun h4=>?_)
  ·
   refine xw_skip<|an<|xw_seq<|xw_block<|xw_seq<|reg<|ka [(2,.u (ix l i1))] 3 0 [16,5,4,0,1] [] [x6 .u64 l i1] ?_
   have h5:U6 (ix l i1):=U64s.ix rq _
   refine ka [(5,.bool ((ix l i1) == a))] 3 3 [19,5,4,0,1] [] [tr,sf ((ix l i1) == a)]<|en<|an<|xcE (ix l i1) a (fun h6=>?_) (fun h6=>?_)
   ·
    exact kB [(1,.i (i1 + 1))] 3 ⟨[(4,.i (i1 + 1)),(5,.i i1),(0,.sl false 1 (m64 l)),(1,.u a)],[],0⟩ [w6 (i1 + 1)]<|xw_ret<|ib_ret<|an_ret<|ag_ret<|ib_ret<|an_ret<|br (.i (i1 + 1)) (.i (plc l a)) (wk_s [(0,⟨((i1 + 1):Int)=(plc l a),Qb1⟩)]) rfl
   ·
    exact xw_skip<|ib<|an<|kC [(1,.i (i1 + 1))] 3 ⟨[(5,.i (i1 + 1)),(4,.i 0),(0,.sl false 1 (m64 l)),(1,.u a)],[],0⟩ [w6 (i1 + 1)]<|ag ⟨(i1 + 1),⟨om,om,Qb2⟩⟩ (le_s []) dm
  ·
   exact xw_exit<|an_exit<|ag_exit<|ib_same<|an<|kb [] 1 [4] [] []<|xw_ret<|br (.i (-1)) (.i (plc l a)) (wk_s [(0,⟨((-1):Int)=(plc l a),Qb1⟩)]) rfl
theorem gplace (l:List Int)(a:Int)(hp0:I64s l)(hp1:(l.length:Int)<=1000000)(hp2:I6 a):Pub Tryz.prog 72 [.sl false 1 (List.map (SV.int .i64) l),.i a] (fun rv=>rv = .i (pi0 l a)):=by
 refine pub_of TT_ok Tryz.func72 rfl (by decide) nk kr<|kb [] 1 [4,0,1] [] []<|xw_seq<|kb [] 1 [5,4,0,1] [] []<|xw_block<|xw_loop (α:={q:Int // (0<=q)/\(q<=(l.length:Int))/\(hasB (l.take (Int.toNat q)) a=false)}) (fun p=>⟨[(5,.i p.1),(4,.i 0),(Q2 l),(1,.i a)],[],0⟩) (fun p=>((l.length:Int) - p.1).toNat) ⟨0,⟨om,om,Qb2⟩⟩ (le_s []) ?_
 rintro ⟨i1,h0,h1,h2⟩
 show XW _ _ _ _ _ _ ⟨[(5,.int .i64 i1),(4,.int .i64 0),(Q2 l),(1,.int .i64 a)],[],0⟩
 refine xw_seq<|kb [(2,.i ((l).length:Int)),(3,.bool (decide (i1<((l).length:Int))))] 4 [9,5,4,0,1] [] [l6 (SV.int .i64) l,sf (decide (i1<((l).length:Int)))]<|xcD (i1<((l).length:Int)) (fun h3=>?_) (fun h3=>?_)
 ·
  refine xw_skip<|an<|xw_seq<|xw_block<|xw_seq<|reg<|ka [(2,.i (ix l i1))] 3 0 [14,5,4,0,1] [] [x6 .i64 l i1] ?_
  have h4:I6 (ix l i1):=I64s.ix rq _
  refine ka [(5,.bool ((ix l i1) == a))] 3 3 [17,5,4,0,1] [] [tr,sf ((ix l i1) == a)]<|en<|an<|xcE (ix l i1) a (fun h5=>?_) (fun h5=>?_)
  ·
   exact kB [] 2 ⟨[(4,.i i1),(5,.i i1),(Q2 l),(1,.i a)],[],0⟩ []<|xw_ret<|ib_ret<|an_ret<|ag_ret<|ib_ret<|an_ret<|br (.i i1) (.i (pi0 l a)) (wk_s [(0,⟨(i1:Int)=(pi0 l a),Qb3⟩)]) rfl
  ·
   exact xw_skip<|ib<|an<|kC [(1,.i (i1 + 1))] 3 ⟨[(5,.i (i1 + 1)),(4,.i 0),(Q2 l),(1,.i a)],[],0⟩ [w6 (i1 + 1)]<|ag ⟨(i1 + 1),⟨om,om,Qb2⟩⟩ (le_s []) dm
 ·
  exact xw_exit<|an_exit<|ag_exit<|ib_same<|an<|kb [] 1 [4] [] []<|xw_ret<|br (.i (-1)) (.i (pi0 l a)) (wk_s [(0,⟨((-1):Int)=(pi0 l a),Qb3⟩)]) rfl
end Go.Proofs.YtmmfpkkamgapkaaGreat.X
