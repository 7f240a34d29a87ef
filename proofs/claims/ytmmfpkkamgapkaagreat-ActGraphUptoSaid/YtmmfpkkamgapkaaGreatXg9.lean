/- A step in memory and in its graph: all that the law asks. No program in sight. -/
import Derived.Test.YtmmfpkkamgapkaaGreatXg8
import Derived.Test.YtmmfpkkamgapkaaGreatXg7
namespace Go.Proofs.YtmmfpkkamgapkaaGreat.X
open Go Go.RowKit
set_option linter.unusedVariables false
section
variable {W:Int} {xs ys X Y l:List Int} {ns:List Nd} {ss rs:List (List Int)}
theorem real_len (hW:0<=W/\W<=4096):∀ (n:Nat) (l:List Int),l.length=n->l.Nodup->(∀ a∈l,rlB W xs ys a=true)->(l.length:Int) + fre W xs ys l<=8192
 | 0,l,hl,_,_=>by
  have:=fre_le (xs:=xs) (ys:=ys) (o:=l) hW; omega
 | n + 1,l,hl,hn,hr=>by
  rcases List.eq_nil_or_concat l with e | ⟨q,a,e⟩
  ·subst e; simp at hl
  ·rw [List.concat_eq_append] at e
   subst e
   rw [List.nodup_append] at hn
   have h1:=real_len hW n q (by simp at hl; omega) hn.1 (fun a ha=>hr a (List.mem_append.2 (.inl ha)))
   have h2:a∉q:=fun hm=>hn.2.2 a hm a (by simp) rfl
   have:=fre_lt (o:=q) (hr a (by simp)) h2
   simp only [List.length_append,List.length_singleton]; omega
theorem Rep.len8 (R:Rep W xs ys l ns)(hW:0<=W/\W<=4096):(l.length:Int)<=8192:=by
 have:=real_len (xs:=xs) (ys:=ys) hW l.length l rfl R.nd R.rl
 have:=fre_0 (W:=W) (xs:=xs) (ys:=ys) (o:=l); omega
theorem mem_ix {q:List Int}{x:Int}(h:x∈q):∃ i,0<=i/\i<(q.length:Int)/\ix q i=x:=by
 obtain ⟨n,hn,rfl⟩:=List.mem_iff_getElem.1 h
 exact ⟨(n:Int),om,om,by unfold ix; rw [List.getD_eq_getElem?_getD]; simp [hn]⟩
theorem mem_nd {n:Nd}(h:n∈ns):∃ k,0<=k/\k<(ns.length:Int)/\ndA ns k=n:=by
 obtain ⟨j,hj,rfl⟩:=List.mem_iff_getElem.1 h
 exact ⟨(j:Int),om,om,by unfold ndA; rw [List.getD_eq_getElem?_getD]; simp [hj]⟩
theorem Rep.nds (R:Rep W xs ys l ns)(hW:0<=W/\W<=4096)(hx:U64s xs)(hy:U64s ys):Nds ns:=fun n hn=>by
 obtain ⟨k,k0,k1,rfl⟩:=mem_nd hn
 have hlen:=R.len
 have h8:=R.len8 hW
 obtain ⟨e1,e2,e3⟩:=R.hd k k0 om
 have e4:=R.fl k k0 om
 have hw:=ldw_ok xs ys (ix l k) hx hy
 have h16:=rl_at (R.rl _ (ix_mem (l:=l) k0 om))
 refine ⟨by rw [e1]; unfold tT; omega,by rw [e2]; unfold tL; omega,by rw [e3]; unfold tM; omega,fun x hxm=>?_,by rw [e4]; omega⟩
 obtain ⟨i,i0,i1,rfl⟩:=mem_ix hxm
 obtain ⟨g1,g2⟩:=R.fw k k0 om i i0 om
 by_cases hp:isPtr (tL xs ys (ix l k)) (tM xs ys (ix l k)) i=true
 ·have:=g2 hp; omega
 ·rw [if_neg hp] at g1
  rw [<- g1]; exact ldw_ok xs ys _ hx hy
theorem rows_ri (e:rs=rowsA l ss)(hr:RUs rs)(hs:H0 l.length ss.flatten)(h8:(l.length:Int)<=8192):RIs ss/\ss.length=rs.length:=by
 subst e
 refine ⟨fun r hm=>⟨fun x hx=>?_,?_⟩,by simp [rowsA]⟩
 ·have:=hs x (List.mem_flatten.2 ⟨r,hm,hx⟩); omega
 ·have:=(hr (r.map (adr l)) (List.mem_map.2 ⟨r,hm,rfl⟩)).2
  simpa using this
theorem of_pre (W:Int)(xs ys:List Int)(rs:List (List Int))(hW:16<=W/\W<=4096)(hx:U64s xs)(hy:U64s ys)(hr:RUs rs)(h:ofB W xs ys rs=true):Nds (ofN W xs ys rs)/\((ofN W xs ys rs).length:Int)<=8192/\RIs (ofS W xs ys rs)/\((ofS W xs ys rs).length:Int)=(rs.length:Int)/\GOk (ofN W xs ys rs) (ofS W xs ys rs):=by
 obtain ⟨R,e,hs⟩:=of_rep om h
 have h8:=R.len8 om
 have hlen:=R.len
 obtain ⟨g1,g2⟩:=rows_ri e hr hs h8
 exact ⟨R.nds om hx hy,om,g1,om,R.gok hs⟩
end
structure AGK (W:Int) (X Y:List Int) (rs:List (List Int)) (D:GR):Prop where
 b:ofB W X Y rs=true
 n:ofN W X Y rs=caN D.ns D.ss
 s:ofS W X Y rs=caS D.ns D.ss
 nd:Nds D.ns
 len:(D.ns.length:Int)<=8192
 ri:RIs D.ss
 sl:(D.ss.length:Int)=(rs.length:Int)
 ok:GOk D.ns D.ss
 p:Nds (ofN W X Y rs)/\((ofN W X Y rs).length:Int)<=8192/\RIs (ofS W X Y rs)/\((ofS W X Y rs).length:Int)=(rs.length:Int)/\GOk (ofN W X Y rs) (ofS W X Y rs)
section
variable {W f0 f1 th e v:Int} {xs ys X Y st1:List Int} {ts:List Th} {T:Th} {y w:Bool} {k h i j u t f m:Int}
theorem rowG_st:rowG (ts.map Th.st) th=Th.st (thA ts th):=by
 unfold rowG thA
 rw [List.getD_eq_getElem?_getD,List.getD_eq_getElem?_getD,List.getElem?_map]
 cases ts[th.toNat]? <;> rfl
theorem stp_len {fr:Int->Prop}{st:List Int}{o:OpV}(S:Stp1 W xs ys st fr o X Y st1 e v y)(hq:(st.length:Int)<=30000000):(st1.length:Int)<=30000000:=by
 cases S <;> first | exact hq | (simp; omega)
theorem jx_len (hJ:JX k h i j u t f m W f0 f1 (Th.b0 (thA ts th)) (Th.b1 (thA ts th)) xs ys (Th.st (thA ts th)) X Y st1 e v y w)(hw:w=false)(hq:((Th.st (thA ts th)).length:Int)<=30000000):(st1.length:Int)<=30000000:=by
 rcases hJ with hJ | ⟨_,S⟩
 ·rw [hw] at hJ; cases hJ
 ·exact stp_len S hq
theorem thq_at (h:Thq ts):((Th.st (thA ts th)).length:Int)<=30000000:=getD_in (Q:=fun t:Th=>(t.st.length:Int)<=30000000) h (by simp) _
theorem thq_set {n:Nat}(h:Thq ts)(hT:(T.st.length:Int)<=30000000):Thq (ts.set n T):=fun x hx=>by
 rcases List.mem_or_eq_of_mem_set hx with h1 | rfl
 ·exact h x h1
 ·exact hT
theorem ag_step (hW:16<=W/\W<=4096)(hx:(xs.length:Int)=W)(hy:(ys.length:Int)=W)(t0:0<=th/\th<(ts.length:Int))(hof:ofB W xs ys (ts.map Th.st)=true)(hfr:FrOk W xs ys f0 f1 ts)
  (hJ:JX k h i j u t f m W f0 f1 (Th.b0 (thA ts th)) (Th.b1 (thA ts th)) xs ys (Th.st (thA ts th)) X Y st1 e v y w) (hw:w=false) (hX:(X.length:Int)=W) (hY:(Y.length:Int)=W) (uX:U64s X) (uY:U64s Y) (hT:T.st=st1) (hr:RUs ((ts.set th.toNat T).map Th.st)) :
  AGK W X Y ((ts.set th.toNat T).map Th.st) (gDo (ofN W xs ys (ts.map Th.st)) (ofS W xs ys (ts.map Th.st)) th ⟨k,h,i,j,u,t,f,m⟩)/\e=(gDo (ofN W xs ys (ts.map Th.st)) (ofS W xs ys (ts.map Th.st)) th ⟨k,h,i,j,u,t,f,m⟩).e/\v=(gDo (ofN W xs ys (ts.map Th.st)) (ofS W xs ys (ts.map Th.st)) th ⟨k,h,i,j,u,t,f,m⟩).v/\y=(gDo (ofN W xs ys (ts.map Th.st)) (ofS W xs ys (ts.map Th.st)) th ⟨k,h,i,j,u,t,f,m⟩).y:=by
 obtain ⟨R,er,hs⟩:=of_rep om hof
 rcases hJ with hJ | ⟨_,S⟩
 ·rw [hw] at hJ; cases hJ
 have hl:(ofS W xs ys (ts.map Th.st)).length=ts.length:=by have:=congrArg List.length er; simpa [rowsA] using this.symm
 have e1:Th.st (thA ts th)=(rowG (ofS W xs ys (ts.map Th.st)) th).map (adr (rch W xs ys (ts.map Th.st).flatten)):=by
  rw [<- row_A (l:=rch W xs ys (ts.map Th.st).flatten) t0.1 om,<- er,rowG_st]
 rw [e1] at S
 obtain ⟨l',R',er',hs',g1,g2,g3⟩:=step_graph R hfr.1 hx hy hW hs t0.1 om (fun a ha q q0 q1=>hfr.2 a ha q q0 q1 th t0.1 t0.2) S hX hY
 have e2:(ts.set th.toNat T).map Th.st=rowsA l' (gDo (ofN W xs ys (ts.map Th.st)) (ofS W xs ys (ts.map Th.st)) th ⟨k,h,i,j,u,t,f,m⟩).ss:=by
  rw [List.map_set,hT,<- er',<- er]
 obtain ⟨c1,c2,c3⟩:=of_canon R' om hs'
 have h8:=R'.len8 om
 obtain ⟨r1,r2⟩:=rows_ri e2 hr hs' h8
 have hp:=R'.len
 refine ⟨⟨by rw [e2]; exact c1,by rw [e2]; exact c2,by rw [e2]; exact c3,R'.nds om uX uY,om,r1,om,R'.gok hs',of_pre W X Y _ hW uX uY hr (by rw [e2]; exact c1)⟩,g1,g2,g3⟩
end
end Go.Proofs.YtmmfpkkamgapkaaGreat.X
