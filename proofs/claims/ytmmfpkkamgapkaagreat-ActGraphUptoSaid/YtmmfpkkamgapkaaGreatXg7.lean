/- A graph in order,told step by step. No program in sight. -/
import Derived.Test.YtmmfpkkamgapkaaGreatXg6
namespace Go.Proofs.YtmmfpkkamgapkaaGreat.X
open Go Go.RowKit
set_option linter.unusedVariables false
def gfr (N:Nat)(o:List Int):Int:=(((List.range N).filter fun k:Nat=>!decide ((k:Int) + 1∈o)).length:Int)
def Vg (N:Nat)(o:List Int):Prop:=Hs N o/\(o.length:Int) + gfr N o<=(N:Int)
def gfd (ns:List Nd)(n:Nat)(o l:List Int)(k:Int):List Int:=(l.take k.toNat).foldl (gvis ns n) o
section
variable {N:Nat} {o l:List Int} {h k:Int}
theorem nflt_le {p q:Nat->Bool}(hpq:∀ y,q y=true->p y=true):∀ l:List Nat,(l.filter q).length<=(l.filter p).length
 | []=>by simp
 | z :: l=>by
  have ih:=nflt_le hpq l
  cases hq:q z with
  | true=>simp [hq,hpq z hq]; omega
  | false=>cases hp:p z <;> simp [hq,hp] <;> omega
theorem nflt_lt {p q:Nat->Bool}{x:Nat}(hx:p x=true)(hy:q x=false)(hpq:∀ y,q y=true->p y=true):∀ {l:List Nat},x∈l->(l.filter q).length<(l.filter p).length
 | [],h=>by cases h
 | y :: l,h=>by
  have hle:=nflt_le hpq l
  rcases List.mem_cons.1 h with rfl | h
  ·simp [hx,hy]; omega
  ·have ih:=nflt_lt hx hy hpq h
   cases hq:q y with
   | true=>simp [hq,hpq y hq]; omega
   | false=>cases hp:p y <;> simp [hq,hp] <;> omega
theorem gfr_lt (h1:1<=h/\h<=(N:Int))(h2:h∉o):gfr N (o++[h])<gfr N o:=by
 unfold gfr
 have:=nflt_lt (p:=fun k:Nat=>!decide ((k:Int) + 1∈o)) (q:=fun k:Nat=>!decide ((k:Int) + 1∈o++[h])) (x:=(h - 1).toNat) (by rw [show (((h - 1).toNat:Nat):Int) + 1=h by omega]; simp [h2]) (by rw [show (((h - 1).toNat:Nat):Int) + 1=h by omega]; simp) (fun y hy=>by
  simp only [Bool.not_eq_true',decide_eq_false_iff_not,List.mem_append,not_or] at *
  exact hy.1) (List.mem_range.2 (by omega):(h - 1).toNat∈List.range N)
 omega
theorem gfr_0:0<=gfr N o:=by unfold gfr; omega
theorem vg_nil:Vg N []:=⟨(fun x hx=>nomatch hx),by unfold gfr; have:=List.length_filter_le (fun k:Nat=>!decide ((k:Int) + 1∈([] : List Int))) (List.range N); simp only [List.length_range] at this; simp only [List.length_nil]; omega⟩
theorem vg_add (hv:Vg N o)(h1:1<=h/\h<=(N:Int))(h2:h∉o):Vg N (o++[h]):=by
 refine ⟨fun x hx=>(List.mem_append.1 hx).elim (hv.1 x) (fun hx=>by rw [List.mem_singleton.1 hx]; exact h1),?_⟩
 have:=gfr_lt h1 h2; have:=hv.2
 simp only [List.length_append,List.length_singleton]; omega
theorem vg_len (hv:Vg N o):(o.length:Int)<=(N:Int):=by have:=hv.2; have:=gfr_0 (N:=N) (o:=o); omega
theorem vg_i64 (hv:Vg N o)(hN:(N:Int)<=1000000000):I64s o:=fun x hx=>by have:=hv.1 x hx; omega
theorem gfr_fuel (hN:(N:Int)<=8192):gfr N o<((fuelN:Nat):Int):=by
 have:gfr N o<=(N:Int):=by unfold gfr; have:=List.length_filter_le (fun k:Nat=>!decide ((k:Int) + 1∈o)) (List.range N); simp only [List.length_range] at this; omega
 unfold fuelN; omega
end
section
variable {ns:List Nd} {ss:List (List Int)} {o l:List Int} {h k i:Int} {n:Nat}
mutual
theorem gvis_ok (G:GOk ns ss):∀ (n:Nat) (o:List Int) (h:Int),Vg ns.length o->0<=h/\h<=(ns.length:Int)->Vg ns.length (gvis ns n o h)/\gfr ns.length (gvis ns n o h)<=gfr ns.length o
 | 0,o,h,hv,_=>⟨hv,Int.le_refl _⟩
 | n + 1,o,h,hv,hh=>by
  unfold gvis
  by_cases hc:h≠0/\h∉o
  ·rw [if_pos hc]
   have h1:1<=h/\h<=(ns.length:Int):=by have:=hc.1; omega
   obtain ⟨g1,g2⟩:=gfold_ok G n (gpt (ndA ns (h - 1))) (o++[h]) (vg_add hv h1 hc.2) ((G.2 (h - 1) om om).2)
   exact ⟨g1,by have:=gfr_lt h1 hc.2; omega⟩
  ·rw [if_neg hc]; exact ⟨hv,Int.le_refl _⟩
theorem gfold_ok (G:GOk ns ss)(n:Nat):∀ (l o:List Int),Vg ns.length o->H0 ns.length l->Vg ns.length (l.foldl (gvis ns n) o)/\gfr ns.length (l.foldl (gvis ns n) o)<=gfr ns.length o
 | [],o,hv,_=>⟨hv,Int.le_refl _⟩
 | b :: l,o,hv,hl=>by
  obtain ⟨g1,g2⟩:=gvis_ok G n o b hv (hl b List.mem_cons_self)
  obtain ⟨g3,g4⟩:=gfold_ok G n l _ g1 (fun x hx=>hl x (List.mem_cons_of_mem _ hx))
  exact ⟨g3,by simp only [List.foldl_cons]; omega⟩
end
theorem gfd_next (k0:0<=k)(k1:k<(l.length:Int)):gvis ns n (gfd ns n o l k) (ix l k)=gfd ns n o l (k + 1):=by
 unfold gfd; rw [take_next k0 k1,List.foldl_append]; rfl
abbrev gpl (nd:Nd):List Int:=ptL nd.l nd.m (Int.toNat nd.l)
theorem gfd_nx (k0:0<=k)(k1:k<((ptL (Nd.l (ndA ns (h - 1))) (Nd.m (ndA ns (h - 1))) (Int.toNat (Nd.l (ndA ns (h - 1))))).length:Int)):gvis ns n (gfd ns n o (gpt (ndA ns (h - 1))) k) (ix (Nd.f (ndA ns (h - 1))) (ix (gpl (ndA ns (h - 1))) k))=gfd ns n o (gpt (ndA ns (h - 1))) (k + 1):=by
 rw [<- gfd_next k0 (by unfold gpt; simpa using k1)]
 congr 1
 unfold gpt
 rw [ix_map k0 k1]
theorem gv_1 (hz:h=0):o=gvis ns (n + 1) o h:=by unfold gvis; rw [if_neg (fun hc=>hc.1 hz)]
theorem gv_2 (hp:0<=pi0 o h):o=gvis ns (n + 1) o h:=by
 unfold gvis; rw [if_neg (fun hc=>?_)]
 unfold pi0 pic at hp; rw [if_neg hc.2] at hp; omega
theorem pi0_in (hp:¬ (0<=pi0 o h)):h∉o:=fun hc=>by
 unfold pi0 pic at hp; rw [if_pos hc] at hp; omega
theorem gv_3 (hz:h≠0)(hp:¬ (0<=pi0 o h))(hk:((ptL (Nd.l (ndA ns (h - 1))) (Nd.m (ndA ns (h - 1))) (Int.toNat (Nd.l (ndA ns (h - 1))))).length:Int)<=k):gfd ns n (o++[h]) (gpt (ndA ns (h - 1))) k=gvis ns (n + 1) o h:=by
 unfold gvis; rw [if_pos ⟨hz,pi0_in hp⟩]
 have hk2:(((ptL (ndA ns (h - 1)).l (ndA ns (h - 1)).m (Int.toNat (ndA ns (h - 1)).l)).length:Nat):Int)<=k:=hk
 unfold gfd; rw [List.take_of_length_le (by unfold gpt; simp; omega)]
theorem gfd_vg (G:GOk ns ss)(hv:Vg ns.length o)(hz:h≠0)(hh:0<=h/\h<=(ns.length:Int))(hp:¬ (0<=pi0 o h)):Vg ns.length (gfd ns n (o++[h]) (gpt (ndA ns (h - 1))) k)/\gfr ns.length (gfd ns n (o++[h]) (gpt (ndA ns (h - 1))) k)<gfr ns.length o:=by
 have h1:1<=h/\h<=(ns.length:Int):=om
 obtain ⟨g1,g2⟩:=gfold_ok G n ((gpt (ndA ns (h - 1))).take k.toNat) (o++[h]) (vg_add hv h1 (pi0_in hp)) (fun x hx=>(G.2 (h - 1) om om).2 x (List.mem_of_mem_take hx))
 exact ⟨g1,by have:=gfr_lt h1 (pi0_in hp); unfold gfd; omega⟩
theorem gpl_ix (G:GOk ns ss){q:Int}(q0:0<=q)(q1:q<(ns.length:Int))(k0:0<=k):((gpl (ndA ns q)).length:Int)<=k\/(0<=ix (gpl (ndA ns q)) k/\ix (gpl (ndA ns q)) k<((Nd.f (ndA ns q)).length:Int)/\0<=ix (Nd.f (ndA ns q)) (ix (gpl (ndA ns q)) k)/\ix (Nd.f (ndA ns q)) (ix (gpl (ndA ns q)) k)<=(ns.length:Int)):=by
 by_cases hk:((gpl (ndA ns q)).length:Int)<=k
 ·exact .inl hk
 ·obtain ⟨g1,g2⟩:=G.2 q q0 q1
  have hm:=ix_mem (l:=gpl (ndA ns q)) k0 om
  obtain ⟨_,p2,p3⟩:=ptL_in _ _ hm
  have:=g2 _ (List.mem_map.2 ⟨_,hm,rfl⟩)
  exact .inr ⟨p2,om,this⟩
theorem gpl_i64 (G:GOk ns ss){q:Int}(q0:0<=q)(q1:q<(ns.length:Int)):I64s (gpl (ndA ns q))/\((gpl (ndA ns q)).length:Int)<=16/\0<=Nd.l (ndA ns q)/\Nd.l (ndA ns q)<=16/\((Nd.f (ndA ns q)).length:Int)=Nd.l (ndA ns q):=by
 obtain ⟨g1,_⟩:=G.2 q q0 q1
 refine ⟨ptL_i64 _ _ om,?_,g1.2.1,g1.2.2,g1.1⟩
 have:=ptL_len (l:=(ndA ns q).l) (m:=(ndA ns q).m) (Int.toNat (ndA ns q).l)
 unfold gpl; omega
theorem gpl_h (G:GOk ns ss)(hh:0<=h/\h<=(ns.length:Int)):h=0\/(0<=Nd.l (ndA ns (h - 1))/\Nd.l (ndA ns (h - 1))<=16/\((Nd.f (ndA ns (h - 1))).length:Int)=Nd.l (ndA ns (h - 1))/\((gpl (ndA ns (h - 1))).length:Int)<=16):=by
 by_cases e:h=0
 ·exact .inl e
 ·obtain ⟨_,g2,g3,g4,g5⟩:=gpl_i64 G (q:=h - 1) om om
  exact .inr ⟨g3,g4,g5,g2⟩
def goR (ns:List Nd)(ss:List (List Int))(i k:Int):List Int:=(jnR ss i++(rowG ss i).take k.toNat).foldl (gvis ns fuelN) []
theorem goR_next (k0:0<=k)(k1:k<((rowG ss i).length:Int)):gvis ns fuelN (goR ns ss i k) (ix (rowG ss i) k)=goR ns ss i (k + 1):=by
 unfold goR; rw [take_next k0 k1,<- List.append_assoc,List.foldl_append (l':=[_])]; rfl
theorem goR_row (i0:0<=i)(i1:i<(ss.length:Int))(hk:((rowG ss i).length:Int)<=k):goR ns ss i k=goR ns ss (i + 1) 0:=by
 unfold goR; rw [List.take_of_length_le om,jnR_next i0 i1]; simp
theorem goR_end (hi:(ss.length:Int)<=i):goR ns ss i 0=gord ns ss.flatten:=by unfold goR gord; rw [jnR_end hi]; simp
theorem goR_vg (G:GOk ns ss):Vg ns.length (goR ns ss i k):=by
 refine (gfold_ok G fuelN _ [] vg_nil (fun x hx=>?_)).1
 rcases List.mem_append.1 hx with hx | hx
 ·unfold jnR at hx
  obtain ⟨r,hr,hxr⟩:=List.mem_flatten.1 hx
  exact G.1 x (List.mem_flatten.2 ⟨r,List.mem_of_mem_take hr,hxr⟩)
 ·have hx:=List.mem_of_mem_take hx
  unfold rowG at hx
  rw [List.getD_eq_getElem?_getD] at hx
  cases hq:ss[i.toNat]? with
  | none=>rw [hq] at hx; cases hx
  | some r=>rw [hq] at hx; exact G.1 x (List.mem_flatten.2 ⟨r,List.mem_of_getElem? hq,hx⟩)
theorem gord_vg (G:GOk ns ss):Vg ns.length (gord ns ss.flatten):=by rw [<- goR_end (ns:=ns) (ss:=ss) (Int.le_refl _)]; exact goR_vg G
theorem goR_h (G:GOk ns ss)(i0:0<=i)(k0:0<=k):(ss.length:Int)<=i\/((rowG ss i).length:Int)<=k\/(0<=ix (rowG ss i) k/\ix (rowG ss i) k<=(ns.length:Int)):=by
 by_cases h1:(ss.length:Int)<=i
 ·exact .inl h1
 by_cases h2:((rowG ss i).length:Int)<=k
 ·exact .inr (.inl h2)
 exact .inr (.inr (G.hd i0 om k0 om))
theorem gord_ix (G:GOk ns ss){q:List Int}(e:q=gord ns ss.flatten)(i0:0<=i):(q.length:Int)<=i\/(1<=ix q i/\ix q i<=(ns.length:Int)):=by
 by_cases h:(q.length:Int)<=i
 ·exact .inl h
 ·subst e; exact .inr ((gord_vg G).1 _ (ix_mem i0 om))
def cfK (o:List Int)(f P:List Int)(k:Int):List Int:=(P.take k.toNat).foldl (fun f i=>st f i (pic o (ix f i))) f
theorem cfK_next {f P:List Int}(k0:0<=k)(k1:k<(P.length:Int)):st (cfK o f P k) (ix P k) (pic o (ix (cfK o f P k) (ix P k)))=cfK o f P (k + 1):=by
 unfold cfK; rw [take_next k0 k1,List.foldl_append]; rfl
theorem cfK_nx {f P:List Int}(k0:0<=k)(k1:k<(P.length:Int)):st (cfK o f P k) (ix P k) (pi0 o (ix (cfK o f P k) (ix P k)) + 1)=cfK o f P (k + 1):=by rw [show pi0 o (ix (cfK o f P k) (ix P k)) + 1=pic o (ix (cfK o f P k) (ix P k)) by unfold pi0; omega]; exact cfK_next k0 k1
theorem cf_len {f:List Int} : ∀ P:List Int,((P.foldl (fun f i=>st f i (pic o (ix f i))) f).length)=f.length:=fun P=>by
 induction P generalizing f with
 | nil=>rfl
 | cons p P ih=>simp only [List.foldl_cons]; rw [ih,len_st]
theorem cfK_len {f P:List Int} : ((cfK o f P k).length:Int)=(f.length:Int):=by unfold cfK; rw [cf_len]
theorem st_ix {f:List Int}{j u:Int}(i0:0<=i)(i1:i<(f.length:Int))(j0:0<=j):ix (st f i u) j=if j=i then u else ix f j:=ix_set i0 i1 j0
theorem cf_ix {f:List Int}{l m:Int} : ∀ (k:Nat),(k:Int)<=(f.length:Int)->∀ j,0<=j->ix ((ptL l m k).foldl (fun f i=>st f i (pic o (ix f i))) f) j=if j<(k:Int)/\isPtr l m j=true then pic o (ix f j) else ix f j
 | 0,_,j,j0=>by rw [if_neg om]; rfl
 | k + 1,hk,j,j0=>by
  have ih:=cf_ix (f:=f) (l:=l) (m:=m) k om
  simp only [ptL]
  by_cases hp:isPtr l m (k:Int)=true
  ·rw [if_pos hp,List.foldl_append]
   simp only [List.foldl_cons,List.foldl_nil]
   have hlen:((ptL l m k).foldl (fun f i=>st f i (pic o (ix f i))) f).length=f.length:=cf_len _
   rw [st_ix (f:=(ptL l m k).foldl (fun f i=>st f i (pic o (ix f i))) f) (i:=(k:Int)) om (by rw [hlen]; omega) j0,ih (k:Int) om,ih j j0]
   by_cases e:j=(k:Int)
   ·subst e; rw [if_pos rfl,if_neg (fun hc=>absurd hc.1 (Int.lt_irrefl _)),if_pos ⟨om,hp⟩]
   ·rw [if_neg e]
    by_cases h1:j<(k:Int)/\isPtr l m j=true
    ·rw [if_pos h1,if_pos ⟨om,h1.2⟩]
    ·rw [if_neg h1,if_neg (fun hc=>h1 ⟨om,hc.2⟩)]
  ·rw [if_neg hp,ih j j0]
   by_cases h1:j<(k:Int)/\isPtr l m j=true
   ·rw [if_pos h1,if_pos ⟨om,h1.2⟩]
   ·rw [if_neg h1,if_neg (fun hc=>h1 ⟨by
     have:j≠(k:Int):=fun e=>hp (e ▸ hc.2)
     omega,hc.2⟩)]
theorem list_ix {xs:List Int}{n:Nat}{f:Nat->Int}(hl:xs.length=n)(h:∀ j:Nat,j<n->ix xs j=f j):xs=(List.range n).map f:=by
 refine List.ext_getElem (by simp [hl]) (fun j h1 h2=>?_)
 have:=h j om
 unfold ix at this
 rw [List.getD_eq_getElem?_getD,show ((j:Int)).toNat=j by omega,List.getElem?_eq_getElem h1] at this
 simpa using this
theorem cfK_end {f:List Int}{l m:Int}(hf:(f.length:Int)=l)(hk:((ptL l m (Int.toNat l)).length:Int)<=k):cfK o f (ptL l m (Int.toNat l)) k=(List.range l.toNat).map fun i:Nat=>if isPtr l m i=true then pic o (ix f i) else ix f i:=by
 unfold cfK
 rw [List.take_of_length_le om]
 refine list_ix (by rw [cf_len]; omega) (fun j hj=>?_)
 rw [cf_ix (Int.toNat l) om (j:Int) om]
 by_cases h:isPtr l m (j:Int)=true
 ·rw [if_pos ⟨om,h⟩,if_pos h]
 ·rw [if_neg (fun hc=>h hc.2),if_neg h]
theorem ptL_mono {l m:Int} : ∀ (n:Nat) (a b:Int),0<=a->a<b->b<((ptL l m n).length:Int)->ix (ptL l m n) a<ix (ptL l m n) b
 | 0,a,b,_,_,h=>by simp [ptL] at h; omega
 | n + 1,a,b,a0,ab,h=>by
  simp only [ptL] at h ⊢
  by_cases hp:isPtr l m (n:Int)=true
  ·rw [if_pos hp] at h ⊢
   simp only [List.length_append,List.length_singleton] at h
   rw [ix_append1 a0 om]
   by_cases e:b<((ptL l m n).length:Int)
   ·rw [ix_append1 om e]; exact ptL_mono n a b a0 ab e
   ·rw [ix_append2 om,show b - ((ptL l m n).length:Int)=0 by omega]
    have:=(ptL_in _ _ (ix_mem (l:=ptL l m n) a0 om)).2.2
    simpa [ix] using this
  ·rw [if_neg hp] at h ⊢; exact ptL_mono n a b a0 ab h
theorem cf_other {f P:List Int}{j:Int}(j0:0<=j):∀ (n:Nat),(∀ a,0<=a->a<(n:Int)->a<(P.length:Int)->ix P a≠j)->(∀ a,0<=a->a<(P.length:Int)->0<=ix P a/\ix P a<(f.length:Int))->ix ((P.take n).foldl (fun f i=>st f i (pic o (ix f i))) f) j=ix f j
 | 0,_,_=>rfl
 | n + 1,h,hb=>by
  by_cases hn:n<P.length
  ·have e:P.take (n + 1)=P.take n++[ix P (n:Int)]:=by have:=take_next (xs:=P) (i:=(n:Int)) om om; simpa using this
   rw [e,List.foldl_append]
   simp only [List.foldl_cons,List.foldl_nil]
   have h1:=hb (n:Int) om om
   rw [st_ix h1.1 (by rw [cf_len]; omega) j0,if_neg (fun hc=>h (n:Int) om om om hc.symm)]
   exact cf_other j0 n (fun a a0 a1 a2=>h a a0 om a2) hb
  ·rw [List.take_of_length_le om,<- List.take_of_length_le (i:=n) (l:=P) om]
   exact cf_other j0 n (fun a a0 a1 a2=>h a a0 om a2) hb
theorem cfK_ix (G:GOk ns ss){q:Int}(q0:0<=q)(q1:q<(ns.length:Int))(k0:0<=k):((gpl (ndA ns q)).length:Int)<=k\/(ix (cfK o (Nd.f (ndA ns q)) (gpl (ndA ns q)) k) (ix (gpl (ndA ns q)) k)=ix (Nd.f (ndA ns q)) (ix (gpl (ndA ns q)) k)):=by
 by_cases hk:((gpl (ndA ns q)).length:Int)<=k
 ·exact .inl hk
 ·have hP:∀ a,0<=a->a<((gpl (ndA ns q)).length:Int)->0<=ix (gpl (ndA ns q)) a/\ix (gpl (ndA ns q)) a<((Nd.f (ndA ns q)).length:Int):=fun a a0 a1=>by
   have:=gpl_ix G q0 q1 a0; omega
  refine .inr (cf_other (hP k k0 om).1 k.toNat (fun a a0 a1 a2=>?_) hP)
  have hk2:k<(((ptL (ndA ns q).l (ndA ns q).m (Int.toNat (ndA ns q).l)).length:Nat):Int):=Int.not_le.1 hk
  have:=ptL_mono (l:=(ndA ns q).l) (m:=(ndA ns q).m) (Int.toNat (ndA ns q).l) a k a0 om hk2
  exact Int.ne_of_lt this
theorem pic_b:0<=pic o h/\pic o h<=(o.length:Int):=by
 unfold pic; split
 ·rename_i hm; have:=List.idxOf_lt_length_of_mem hm; omega
 ·omega
theorem pi0_1:pi0 o h + 1=pic o h:=by unfold pi0; omega
theorem cfK_u64 {f P:List Int}(hf:U64s f)(ho:(o.length:Int)<=1000000):U64s (cfK o f P k):=by
 unfold cfK
 generalize P.take k.toNat=Q
 induction Q generalizing f with
 | nil=>exact hf
 | cons p Q ih=>simp only [List.foldl_cons]; exact ih (hf.st _ (by have:=pic_b (o:=o) (h:=ix f p); omega))
def caT (ns:List Nd)(o:List Int)(i:Int):List Nd:=(o.take i.toNat).map (ndC ns o)
theorem caT_next (G:GOk ns ss)(i0:0<=i)(i1:i<(o.length:Int))(hh:1<=ix o i/\ix o i<=(ns.length:Int))(hk:((ptL (Nd.l (ndA ns (ix o i - 1))) (Nd.m (ndA ns (ix o i - 1))) (Int.toNat (Nd.l (ndA ns (ix o i - 1))))).length:Int)<=k):caT ns o i++[(⟨(ndA ns (ix o i - 1)).t,(ndA ns (ix o i - 1)).l,(ndA ns (ix o i - 1)).m,cfK o (ndA ns (ix o i - 1)).f (gpl (ndA ns (ix o i - 1))) k⟩ : Nd)]=caT ns o (i + 1):=by
 unfold caT
 rw [take_next i0 i1,List.map_append]
 simp only [List.map_cons,List.map_nil,ndC]
 rw [cfK_end (G.2 (ix o i - 1) om om).1.1 hk]
theorem caT_end {q:List Int}(e:o=gord ns ss.flatten)(h:(o.length:Int)<=i):caT ns o i=caN ns ss:=by unfold caT caN; rw [List.take_of_length_le om,e]
theorem caT_len (i0:0<=i):((caT ns o i).length:Int)<=(o.length:Int):=by unfold caT; simp; omega
def piR (o r:List Int)(k:Int):List Int:=(r.take k.toNat).map (pic o)
theorem piR_next {r:List Int}(k0:0<=k)(k1:k<(r.length:Int)):piR o r k++[pi0 o (ix r k) + 1]=piR o r (k + 1):=by rw [pi0_1]; unfold piR; rw [take_next k0 k1,List.map_append]; rfl
theorem piR_len {r:List Int}(k0:0<=k):((piR o r k).length:Int)<=(r.length:Int):=by unfold piR; simp; omega
def piS (o:List Int)(ss:List (List Int))(i:Int):List (List Int):=(ss.take i.toNat).map fun r=>r.map (pic o)
theorem piS_next (i0:0<=i)(i1:i<(ss.length:Int))(hk:((rowG ss i).length:Int)<=k):piS o ss i++[piR o (rowG ss i) k]=piS o ss (i + 1):=by
 unfold piR; rw [List.take_of_length_le om]; unfold piS; rw [take_nextR i0 i1,List.map_append]; rfl
theorem piS_end (e:o=gord ns ss.flatten)(h:(ss.length:Int)<=i):piS o ss i=caS ns ss:=by unfold piS caS; rw [List.take_of_length_le om,e]
theorem piS_len (i0:0<=i):((piS o ss i).length:Int)<=(ss.length:Int):=by unfold piS; simp; omega
end
end Go.Proofs.YtmmfpkkamgapkaaGreat.X
