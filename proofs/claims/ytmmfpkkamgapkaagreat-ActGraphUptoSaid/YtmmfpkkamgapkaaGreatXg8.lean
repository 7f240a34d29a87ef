/- Objects that are apart,word by word. No program in sight. -/
import Derived.Test.YtmmfpkkamgapkaaGreatXg6
import Derived.Test.YtmmfpkkamgapkaaGreatXg3
import Derived.Test.YtmmfpkkamgapkaaGreatXr4
namespace Go.Proofs.YtmmfpkkamgapkaaGreat.X
open Go Go.RowKit
set_option linter.unusedVariables false
def wds (a k:Int):List Int:=(List.range k.toNat).map fun n:Nat=>(a / 4294967296 - 1) * 4096 + (a % 4294967296 + n)
def twL (xs ys l:List Int)(i:Int):List Int:=((l.take i.toNat).map fun a=>wds a (tL xs ys a + 2)).flatten
def clr0 (o:List Int)(s p q:Int):Prop:=∀ x,p<=x->x<q->hasB o (s * 4096 + x)=false
def clrT (o:List Int)(s:Int)(ts:List Th)(i:Int):Prop:=∀ k,0<=k->k<i->clr0 o s (Th.b0 (thA ts k)) (Th.b1 (thA ts k))
def FrOk (W:Int)(xs ys:List Int)(f0 f1:Int)(ts:List Th):Prop:=Dj xs ys (rch W xs ys (ts.map Th.st).flatten)/\∀ a∈rch W xs ys (ts.map Th.st).flatten,∀ j,0<=j->j<tL xs ys a + 2->∀ k,0<=k->k<(ts.length:Int)->¬ frW f0 f1 (Th.b0 (thA ts k)) (Th.b1 (thA ts k)) (a + j)
section
variable {W:Int} {xs ys l o:List Int} {a i k s p q f0 f1:Int} {ts:List Th}
theorem tw_0 : []=twL xs ys l 0:=rfl
theorem tw_in:twL xs ys l i=twL xs ys l i++wds a 0:=by simp [wds]
theorem wds_next (k0:0<=k):wds a (k + 1)=wds a k++[(a / 4294967296 - 1) * 4096 + (a % 4294967296 + k)]:=by
 unfold wds
 rw [show (k + 1).toNat=k.toNat + 1 by omega,List.range_succ,List.map_append]
 simp only [List.map_cons,List.map_nil,show ((k.toNat:Nat):Int)=k by omega]
theorem tw_st (k0:0<=k):(o++wds a k)++[(a / 4294967296 - 1) * 4096 + (a % 4294967296 + k)]=o++wds a (k + 1):=by rw [wds_next k0,List.append_assoc]
theorem tw_next (i0:0<=i)(i1:i<(l.length:Int))(hk:k=(ldw xs ys (ix l i) / 4294967296) % 16777216 + 2):twL xs ys l i++wds (ix l i) k=twL xs ys l (i + 1):=by
 subst hk
 unfold twL
 rw [take_next i0 i1,List.map_append,List.flatten_append]; simp [tL]
theorem nd_0:(twL xs ys l 0).Nodup:=by unfold twL; simp
theorem nd_in (h:o.Nodup):(o++wds a 0).Nodup:=by simpa [wds] using h
theorem nd_st (k0:0<=k)(h:(o++wds a k).Nodup)(h2:hasB (o++wds a k) ((a / 4294967296 - 1) * 4096 + (a % 4294967296 + k))=false):(o++wds a (k + 1)).Nodup:=by
 rw [wds_next k0,<- List.append_assoc]
 refine List.nodup_append.2 ⟨h,by simp,fun x hx y hy e=>?_⟩
 rw [List.mem_singleton.1 hy] at e
 exact not_in h2 (e ▸ hx)
theorem nd_out (i0:0<=i)(i1:i<(l.length:Int))(hk:k=(ldw xs ys (ix l i) / 4294967296) % 16777216 + 2)(h:(twL xs ys l i++wds (ix l i) k).Nodup):(twL xs ys l (i + 1)).Nodup:=by rw [<- tw_next i0 i1 hk]; exact h
theorem clr_0:clr0 o s p p:=fun x h1 h2=>by omega
theorem clr_next (h:clr0 o s p q)(h2:hasB o (s * 4096 + q)=false):clr0 o s p (q + 1):=fun x h1 h3=>by
 by_cases e:x=q
 ·subst e; exact h2
 ·exact h x h1 om
theorem clrT_0:clrT o s ts 0:=fun k h1 h2=>by omega
theorem clrT_next (h:clrT o s ts i)(hq:Th.b1 (thA ts i)<=q)(h2:clr0 o s (Th.b0 (thA ts i)) q):clrT o s ts (i + 1):=fun k h1 h3=>by
 by_cases e:k=i
 ·subst e; exact fun x g1 g2=>h2 x g1 om
 ·exact h k h1 om
theorem flat_disj {f:Int->List Int} : ∀ {l:List Int},((l.map f).flatten).Nodup->∀ {a b x:Int},a∈l->b∈l->a≠b->x∈f a->x∈f b->False
 | [],_,a,b,x,ha,_,_,_,_=>nomatch ha
 | c :: l,h,a,b,x,ha,hb,hne,h1,h2=>by
  simp only [List.map_cons,List.flatten_cons] at h
  obtain ⟨_,g2,g3⟩:=List.nodup_append.1 h
  have in_:∀ {d:Int},d∈l->x∈f d->x∈(l.map f).flatten:=fun hd hx=>List.mem_flatten.2 ⟨_,List.mem_map.2 ⟨_,hd,rfl⟩,hx⟩
  rcases List.mem_cons.1 ha with e | ha2
  ·rcases List.mem_cons.1 hb with e2 | hb2
   ·exact hne (e.trans e2.symm)
   ·exact g3 x (e ▸ h1) x (in_ hb2 h2) rfl
  ·rcases List.mem_cons.1 hb with e2 | hb2
   ·exact g3 x (e2 ▸ h2) x (in_ ha2 h1) rfl
   ·exact flat_disj g2 ha2 hb2 hne h1 h2
theorem mem_wds {j:Int}(j0:0<=j)(j1:j<k):(a / 4294967296 - 1) * 4096 + (a % 4294967296 + j)∈wds a k:=by
 unfold wds
 exact List.mem_map.2 ⟨j.toNat,List.mem_range.2 om,by rw [show ((j.toNat:Nat):Int)=j by omega]⟩
theorem free_ok {at1 j1:Int}(hW:16<=W/\W<=4096)(hl:l=rch W xs ys (uq (ts.map Th.st).flatten))(hi:(l.length:Int)<=i)(nd:(twL xs ys l i).Nodup)(ha:W<=at1)(hc:clr0 (twL xs ys l i) f0 f1 at1)(hj:(ts.length:Int)<=j1)(ht:clrT (twL xs ys l i) f0 ts j1):FrOk W xs ys f0 f1 ts:=by
 rw [rch_uq] at hl
 have e:twL xs ys l i=(l.map fun a=>wds a (tL xs ys a + 2)).flatten:=by unfold twL; rw [List.take_of_length_le om]
 rw [e] at nd hc ht
 have at_:∀ a∈l,(1<=a / 4294967296/\a / 4294967296<=2)/\a % 4294967296 + tL xs ys a + 2<=W/\0<=tL xs ys a:=fun a hm=>by
  rw [hl] at hm
  have h:=rl_at (fold_rl W xs ys fuelN _ [] (fun x hx=>nomatch hx) a hm)
  exact ⟨h.1,h.2.1,tL_nn⟩
 unfold FrOk
 rw [<- hl]
 refine ⟨fun a ha' b hb hne i2 j2 i0 i1 j0 j1' he=>?_,fun a ha' j j0 j2 k k0 k1 hf=>?_⟩
 ·obtain ⟨a1,a2,a3⟩:=at_ a ha'
  obtain ⟨b1,b2,b3⟩:=at_ b hb
  refine flat_disj nd ha' hb hne (mem_wds (a:=a) i0 i1) ?_
  have h1:a / 4294967296=b / 4294967296:=om
  have h2:a % 4294967296 + i2=b % 4294967296 + j2:=om
  rw [h1,h2]
  exact mem_wds j0 j1'
 ·obtain ⟨a1,a2,a3⟩:=at_ a ha'
  unfold frW at hf
  have hm:(a / 4294967296 - 1) * 4096 + (a % 4294967296 + j)∈(l.map fun a=>wds a (tL xs ys a + 2)).flatten:=List.mem_flatten.2 ⟨_,List.mem_map.2 ⟨a,ha',rfl⟩,mem_wds j0 j2⟩
  have h1:a / 4294967296 - 1=f0:=om
  rw [h1] at hm
  rcases hf.2 with g | g
  ·exact not_in (hc (a % 4294967296 + j) om om) hm
  ·exact not_in (ht k k0 om (a % 4294967296 + j) om om) hm
theorem flat_len:∀ {rs:List (List Int)} {m:Nat},(∀ r∈rs,r.length<=m)->rs.flatten.length<=rs.length * m
 | [],m,_=>by simp
 | r :: rs,m,h=>by
  have h1:=h r List.mem_cons_self
  have h2:=flat_len (rs:=rs) (m:=m) (fun x hx=>h x (List.mem_cons_of_mem _ hx))
  simp only [List.flatten_cons,List.length_append,List.length_cons,Nat.add_mul]; omega
theorem rows_ok (h:Ths ts)(hq:Thq ts)(hn:(ts.length:Int)<=4):RUs (ts.map Th.st)/\((ts.map Th.st).length:Int) * 24<=140737488355000/\((ts.map Th.st).flatten.length:Int) * 8<=140737488355000:=by
 refine ⟨fun r hr=>?_,by simp; omega,?_⟩
 ·obtain ⟨t,ht,rfl⟩:=List.mem_map.1 hr
  exact ⟨(h t ht).1,(h t ht).2.1⟩
 ·have:=flat_len (rs:=ts.map Th.st) (m:=30000000) (fun r hr=>by
   obtain ⟨t,ht,rfl⟩:=List.mem_map.1 hr
   have:=hq t ht; omega)
  have h2:(ts.map Th.st).length * 30000000<=4 * 30000000:=Nat.mul_le_mul_right _ (by simp; omega)
  omega
theorem rows_okx (ts:List Th)(h:Ths ts)(hq:Thq ts)(hn:(ts.length:Int)<=4):RUs (ts.map Th.st)/\((ts.map Th.st).length:Int) * 24<=140737488355000/\((ts.map Th.st).flatten.length:Int) * 8<=140737488355000:=rows_ok h hq hn
end
end Go.Proofs.YtmmfpkkamgapkaaGreat.X
