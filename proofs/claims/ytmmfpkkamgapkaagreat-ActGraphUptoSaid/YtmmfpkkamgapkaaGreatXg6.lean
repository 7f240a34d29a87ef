/- What is reached,as the document tells it; the graph that memory has,told step by step. No program in sight. -/
import Derived.Test.YtmmfpkkamgapkaaGreatXg5
namespace Go.Proofs.YtmmfpkkamgapkaaGreat.X
open Go Go.RowKit
set_option linter.unusedVariables false
section
variable {W:Int} {xs ys:List Int} {n:Nat} {o l:List Int} {a k:Int}
theorem vr_1 (h:rlB W xs ys a=false):o=vis W xs ys (n + 1) o a:=(vis_no (fun hc=>by rw [h] at hc; cases hc.1)).symm
theorem vr_3 (h:rlB W xs ys a=true)(hs:hasB o a=false)(hk:((ptrs W xs ys a).length:Int)<=k):vfd W xs ys n (o++[a]) (ptrs W xs ys a) k=vis W xs ys (n + 1) o a:=vis_yes h (not_in hs) hk
theorem vfd_vkr (h:Vk W xs ys o)(hr:rlB W xs ys a=true)(hs:hasB o a=false):Vk W xs ys (vfd W xs ys n (o++[a]) l k):=(vfd_ok (vk_add h hr (not_in hs))).1
theorem vfd_frer (h:Vk W xs ys o)(hr:rlB W xs ys a=true)(hs:hasB o a=false):fre W xs ys (vfd W xs ys n (o++[a]) l k)<fre W xs ys o:=by
 have h1:=(vfd_ok (n:=n) (l:=l) (k:=k) (vk_add h hr (not_in hs))).2
 have h2:=fre_lt hr (not_in hs)
 omega
end
def uq1 (o:List Int)(a:Int):List Int:=if a≠0/\a∉o then o++[a] else o
def uq (l:List Int):List Int:=l.foldl uq1 []
def uqR (rs:List (List Int))(i k:Int):List Int:=uq (jnR rs i++(rowG rs i).take k.toNat)
section
variable {rs:List (List Int)} {i k:Int}
theorem uqR_step (k0:0<=k)(k1:k<((rowG rs i).length:Int)):uqR rs i (k + 1)=uq1 (uqR rs i k) (ix (rowG rs i) k):=by
 unfold uqR uq
 rw [take_next k0 k1,<- List.append_assoc,List.foldl_append]; rfl
theorem uqR_yes (k0:0<=k)(k1:k<((rowG rs i).length:Int))(hz:ix (rowG rs i) k≠0)(hh:hasB (uqR rs i k) (ix (rowG rs i) k)=false):uqR rs i k++[ix (rowG rs i) k]=uqR rs i (k + 1):=by
 rw [uqR_step k0 k1]; unfold uq1; rw [if_pos ⟨hz,not_in hh⟩]
theorem uqR_z (k0:0<=k)(k1:k<((rowG rs i).length:Int))(hz:ix (rowG rs i) k=0):uqR rs i k=uqR rs i (k + 1):=by
 rw [uqR_step k0 k1]; unfold uq1; rw [if_neg (fun h=>h.1 hz)]
theorem uqR_h (k0:0<=k)(k1:k<((rowG rs i).length:Int))(hh:hasB (uqR rs i k) (ix (rowG rs i) k)=true):uqR rs i k=uqR rs i (k + 1):=by
 rw [uqR_step k0 k1]; unfold uq1; rw [if_neg (fun h=>h.2 (of_decide_eq_true hh))]
theorem uqR_row (i0:0<=i)(i1:i<(rs.length:Int))(hk:((rowG rs i).length:Int)<=k):uqR rs i k=uqR rs (i + 1) 0:=by
 unfold uqR
 rw [List.take_of_length_le om,jnR_next i0 i1]; simp
theorem uqR_end (hi:(rs.length:Int)<=i):uqR rs i 0=uq rs.flatten:=by unfold uqR; rw [jnR_end hi]; simp
theorem uq_fl:∀ (l o:List Int),(l.foldl uq1 o).length<=o.length + l.length
 | [],o=>by simp
 | a :: l,o=>by
  have h:=uq_fl l (uq1 o a)
  have h2:(uq1 o a).length<=o.length + 1:=by unfold uq1; split <;> simp
  simp only [List.foldl_cons,List.length_cons]; omega
theorem uqR_len (i0:0<=i):(rs.length:Int)<=i\/((rowG rs i).length:Int)<=k\/((uqR rs i k).length:Int) + 1<=(rs.flatten.length:Int)\/k<0:=by
 by_cases h1:(rs.length:Int)<=i
 ·exact .inl h1
 by_cases h2:((rowG rs i).length:Int)<=k
 ·exact .inr (.inl h2)
 by_cases h3:k<0
 ·exact .inr (.inr (.inr h3))
 refine .inr (.inr (.inl ?_))
 have h:=uq_fl (jnR rs i++(rowG rs i).take k.toNat) []
 have h4:=jnR_len2 (rs:=rs) i0
 unfold uqR uq
 simp only [List.length_append,List.length_take,List.length_nil] at h
 omega
theorem uq_u64:∀ {l o:List Int},U64s o->U64s l->U64s (l.foldl uq1 o)
 | [],o,ho,_=>ho
 | a :: l,o,ho,hl=>by
  refine uq_u64 (l:=l) ?_ (fun x hx=>hl x (List.mem_cons_of_mem _ hx))
  unfold uq1
  split
  ·exact ho.append (U64s.cons (hl a List.mem_cons_self) U64s.nil)
  ·exact ho
theorem uqR_u64 (h:RUs rs):U64s (uqR rs i k):=uq_u64 U64s.nil (U64s.append (jnR_u64 h) ((h.at i).1.take _))
theorem ru_flat (h:RUs rs):U64s rs.flatten:=by rw [<- jnR_end (rs:=rs) (Int.le_refl _)]; exact jnR_u64 h
theorem uq_ok (h:RUs rs):U64s (uq rs.flatten)/\((uq rs.flatten).length:Int)<=(rs.flatten.length:Int):=by
 refine ⟨uq_u64 U64s.nil (by rw [<- jnR_end (rs:=rs) (Int.le_refl _)]; exact jnR_u64 h),?_⟩
 have:=uq_fl rs.flatten []
 simp only [List.length_nil] at this
 unfold uq; omega
end
section
variable {W:Int} {xs ys:List Int}
theorem fold_uq (n:Nat):∀ (l o q:List Int),(∀ x∈q,rlB W xs ys x=true->x∈o)->(q.foldl (vis W xs ys (n + 1)) []=o)->(l.foldl uq1 q).foldl (vis W xs ys (n + 1)) []=l.foldl (vis W xs ys (n + 1)) o
 | [],o,q,_,h=>h
 | a :: l,o,q,hq,h=>by
  simp only [List.foldl_cons]
  have key:uq1 q a=q/\vis W xs ys (n + 1) o a=o\/uq1 q a=q++[a]:=by
   unfold uq1
   by_cases c:a≠0/\a∉q
   ·rw [if_pos c]; exact .inr rfl
   ·rw [if_neg c]
    refine .inl ⟨rfl,vis_no (fun hc=>?_)⟩
    by_cases z:a=0
    ·subst z; rw [rl0] at hc; cases hc.1
    ·have:a∈q:=Decidable.not_not.1 (fun g=>c ⟨z,g⟩)
     exact hc.2 (hq a this hc.1)
  rcases key with ⟨e1,e2⟩ | e1
  ·rw [e1,e2]; exact fold_uq n l o q hq h
  ·rw [e1]
   refine fold_uq n l _ _ (fun x hx hr=>?_) (by rw [List.foldl_append,h]; rfl)
   rcases List.mem_append.1 hx with hx | hx
   ·exact (vis_pre W xs ys (n + 1) o a).subset (hq x hx hr)
   ·rw [List.mem_singleton.1 hx] at hr ⊢
    exact vis_mem hr
theorem rch_uq {l:List Int} : rch W xs ys (uq l)=rch W xs ys l:=fold_uq 8192 l [] [] (fun x hx=>by cases hx) rfl
end
def ndF (xs ys l:List Int)(a k:Int):List Int:=(List.range k.toNat).map fun i:Nat=>if isPtr (tL xs ys a) (tM xs ys a) i=true then plc l (ldw xs ys (a + 2 + i)) else ldw xs ys (a + 2 + i)
def fkB (xs ys l:List Int)(a k:Int):Bool:=(List.range k.toNat).all fun i:Nat=>!isPtr (tL xs ys a) (tM xs ys a) i || okB l (ldw xs ys (a + 2 + i))
def rkB (l r:List Int)(k:Int):Bool:=(r.take k.toNat).all (okB l)
def rwB (l:List Int)(rs:List (List Int))(i:Int):Bool:=(rs.take i.toNat).all fun r=>r.all (okB l)
def plR (l r:List Int)(k:Int):List Int:=(r.take k.toNat).map (plc l)
def plS (l:List Int)(rs:List (List Int))(i:Int):List (List Int):=(rs.take i.toNat).map fun r=>r.map (plc l)
section
variable {W:Int} {xs ys l r:List Int} {rs:List (List Int)} {a i k:Int}
theorem ndF_y (k0:0<=k)(hp:isPtr ((ldw xs ys a / 4294967296) % 16777216) (ldw xs ys a % 4294967296) k=true):ndF xs ys l a k++[plc l (ldw xs ys (a + 2 + k))]=ndF xs ys l a (k + 1):=by
 unfold ndF
 rw [show (k + 1).toNat=k.toNat + 1 by omega,List.range_succ,List.map_append]
 simp only [List.map_cons,List.map_nil,show ((k.toNat:Nat):Int)=k by omega]
 rw [if_pos hp]
theorem ndF_n (k0:0<=k)(hp:isPtr ((ldw xs ys a / 4294967296) % 16777216) (ldw xs ys a % 4294967296) k=false):ndF xs ys l a k++[ldw xs ys (a + 2 + k)]=ndF xs ys l a (k + 1):=by
 unfold ndF
 rw [show (k + 1).toNat=k.toNat + 1 by omega,List.range_succ,List.map_append]
 simp only [List.map_cons,List.map_nil,show ((k.toNat:Nat):Int)=k by omega]
 rw [if_neg (by rw [hp]; decide)]
theorem ndF_len (k0:0<=k):((ndF xs ys l a k).length:Int)=k:=by unfold ndF; simp; omega
theorem plc_ok (h:0<=plc l a):okB l a=true:=by
 unfold plc at h
 refine okB_iff.2 ?_
 split at h
 ·rename_i e; exact .inl e
 ·split at h
  ·rename_i e; exact .inr e
  ·omega
theorem plc_bad (h:plc l a<0):okB l a=false:=by
 cases hq:okB l a with
 | false=>rfl
 | true =>
  have h2:=okB_iff.1 hq
  unfold plc at h
  split at h
  ·omega
  ·rename_i e
   rw [if_pos (h2.resolve_left e)] at h; omega
theorem fkB_0:fkB xs ys l a 0=true:=rfl
theorem fkB_y (k0:0<=k)(h:fkB xs ys l a k=true)(hp:0<=plc l (ldw xs ys (a + 2 + k))):fkB xs ys l a (k + 1)=true:=by
 unfold fkB at *
 rw [show (k + 1).toNat=k.toNat + 1 by omega,List.range_succ,List.all_append,h]
 simp [show ((k.toNat:Nat):Int)=k by omega,plc_ok hp]
theorem fkB_n (k0:0<=k)(h:fkB xs ys l a k=true)(hp:isPtr ((ldw xs ys a / 4294967296) % 16777216) (ldw xs ys a % 4294967296) k=false):fkB xs ys l a (k + 1)=true:=by
 unfold fkB at *
 rw [show (k + 1).toNat=k.toNat + 1 by omega,List.range_succ,List.all_append,h]
 have hp2:isPtr (tL xs ys a) (tM xs ys a) k=false:=hp
 simp [show ((k.toNat:Nat):Int)=k by omega,hp2]
theorem fkB_all (ho:oErr W xs ys a=0)(hk:(ldw xs ys a / 4294967296) % 16777216<=k)(h:fkB xs ys l a k=true):(ptrs W xs ys a).all (okB l)=true:=by
 refine List.all_eq_true.2 fun v hv=>?_
 rw [ptrs_1 ho] at hv
 obtain ⟨i,hi,rfl⟩:=List.mem_map.1 hv
 obtain ⟨h1,h2,h3⟩:=ptL_in _ _ hi
 have:=List.all_eq_true.1 h i.toNat (List.mem_range.2 om)
 rw [show ((i.toNat:Nat):Int)=i by omega] at this
 have h1':isPtr (tL xs ys a) (tM xs ys a) i=true:=h1
 rw [h1'] at this
 simpa using this
theorem snB_nf (i0:0<=i)(i1:i<(l.length:Int))(h1:snB W xs ys l i=true)(ho:oErr W xs ys (ix l i)=0)(hk:(ldw xs ys (ix l i) / 4294967296) % 16777216<=k)(h:fkB xs ys l (ix l i) k=true):snB W xs ys l (i + 1)=true:=snB_next i0 i1 h1 (fkB_all ho hk h)
theorem of_no1 (e:l=rch W xs ys rs.flatten)(i0:0<=i)(i1:i<(l.length:Int))(ho:oErr W xs ys (ix l i)=0)(k0:0<=k)(k1:k<(ldw xs ys (ix l i) / 4294967296) % 16777216)(hp:isPtr ((ldw xs ys (ix l i) / 4294967296) % 16777216) (ldw xs ys (ix l i) % 4294967296) k=true)
  (hb:plc l (ldw xs ys (ix l i + 2 + k))<0):ofB W xs ys rs=false:=by
 have hm:ldw xs ys (ix l i + 2 + k)∈ptrs W xs ys (ix l i):=by
  rw [ptrs_1 ho]
  refine List.mem_map.2 ⟨k,?_,rfl⟩
  have:=ptL_has (l:=tL xs ys (ix l i)) (m:=tM xs ys (ix l i)) (k:=Int.toNat (tL xs ys (ix l i))) (i:=k.toNat) (by unfold tL; omega) (by rw [show ((k.toNat:Nat):Int)=k by omega]; exact hp)
  rwa [show ((k.toNat:Nat):Int)=k by omega] at this
 unfold ofB
 rw [<- e]
 rw [Bool.and_eq_false_iff]
 refine .inl (List.all_eq_false.2 ⟨_,ix_mem i0 i1,?_⟩)
 rw [Bool.not_eq_true]
 exact List.all_eq_false.2 ⟨_,hm,by rw [plc_bad hb]; decide⟩
theorem rkB_0:rkB l r 0=true:=rfl
theorem rkB_next (k0:0<=k)(k1:k<(r.length:Int))(h:rkB l r k=true)(hp:0<=plc l (ix r k)):rkB l r (k + 1)=true:=take_all1 k0 k1 h (plc_ok hp)
theorem rwB_0:rwB l rs 0=true:=rfl
theorem rwB_next (i0:0<=i)(i1:i<(rs.length:Int))(h:rwB l rs i=true)(hk:((rowG rs i).length:Int)<=k)(h2:rkB l (rowG rs i) k=true):rwB l rs (i + 1)=true:=by
 unfold rwB rkB at *
 rw [List.take_of_length_le om] at h2
 rw [take_nextR i0 i1,List.all_append,h]; simpa using h2
theorem of_no2 (e:l=rch W xs ys rs.flatten)(i0:0<=i)(i1:i<(rs.length:Int))(k0:0<=k)(k1:k<((rowG rs i).length:Int))(hb:plc l (ix (rowG rs i) k)<0):ofB W xs ys rs=false:=by
 unfold ofB
 rw [<- e,Bool.and_eq_false_iff]
 refine .inr (List.all_eq_false.2 ⟨_,row_in i0 i1,?_⟩)
 rw [Bool.not_eq_true]
 exact List.all_eq_false.2 ⟨_,ix_mem k0 k1,by rw [plc_bad hb]; decide⟩
theorem of_yes {j:Int}(e:l=rch W xs ys rs.flatten)(hi:(l.length:Int)<=i)(h1:snB W xs ys l i=true)(hj:(rs.length:Int)<=j)(h2:rwB l rs j=true):ofB W xs ys rs=true:=by
 unfold ofB
 rw [<- e,Bool.and_eq_true]
 unfold snB at h1
 unfold rwB at h2
 rw [List.take_of_length_le om] at h1 h2
 exact ⟨h1,h2⟩
theorem plR_next (k0:0<=k)(k1:k<(r.length:Int)):plR l r k++[plc l (ix r k)]=plR l r (k + 1):=by unfold plR; rw [take_next k0 k1,List.map_append]; rfl
theorem plR_end (h:(r.length:Int)<=k):plR l r k=r.map (plc l):=by unfold plR; rw [List.take_of_length_le om]
theorem plR_len (k0:0<=k):((plR l r k).length:Int)<=(r.length:Int):=by unfold plR; simp; omega
theorem plS_next (i0:0<=i)(i1:i<(rs.length:Int))(hk:((rowG rs i).length:Int)<=k):plS l rs i++[plR l (rowG rs i) k]=plS l rs (i + 1):=by rw [plR_end hk]; unfold plS; rw [take_nextR i0 i1,List.map_append]; rfl
theorem plS_end (e:l=rch W xs ys rs.flatten)(h:(rs.length:Int)<=i):plS l rs i=ofS W xs ys rs:=by unfold plS ofS; rw [List.take_of_length_le om,<- e]
theorem plS_len (i0:0<=i):((plS l rs i).length:Int)<=(rs.length:Int):=by unfold plS; simp; omega
def ndT (xs ys l:List Int)(i:Int):List Nd:=(l.take i.toNat).map (ndO xs ys l)
theorem ndT_next (i0:0<=i)(i1:i<(l.length:Int))(hk:k=(ldw xs ys (ix l i) / 4294967296) % 16777216):ndT xs ys l i++[(⟨ldw xs ys (ix l i) / 72057594037927936,(ldw xs ys (ix l i) / 4294967296) % 16777216,ldw xs ys (ix l i) % 4294967296,ndF xs ys l (ix l i) k⟩ : Nd)]=ndT xs ys l (i + 1):=by
 subst hk
 unfold ndT
 rw [take_next i0 i1,List.map_append]; rfl
theorem ndT_end (e:l=rch W xs ys rs.flatten)(h:(l.length:Int)<=i):ndT xs ys l i=ofN W xs ys rs:=by unfold ndT ofN; rw [List.take_of_length_le om,<- e]
theorem ndT_len (i0:0<=i):((ndT xs ys l i).length:Int)<=(l.length:Int):=by unfold ndT; simp; omega
theorem rch_at {q:List Int}(e:l=rch W xs ys q)(i0:0<=i):(l.length:Int)<=i\/(oErr W xs ys (ix l i)=0/\ldw xs ys (ix l i) / 72057594037927936≠255/\1<=ix l i / 4294967296/\ix l i / 4294967296<=2/\(ldw xs ys (ix l i) / 4294967296) % 16777216<=16/\(ix l i) % 4294967296 + (ldw xs ys (ix l i) / 4294967296) % 16777216 + 2<=W):=by
 by_cases h:(l.length:Int)<=i
 ·exact .inl h
 ·have hr:rlB W xs ys (ix l i)=true:=by
   have hm:=ix_mem (l:=l) i0 om
   rw [e] at hm ⊢
   exact fold_rl W xs ys fuelN _ [] (fun x hx=>nomatch hx) _ hm
  have h2:=of_decide_eq_true hr
  have h3:=rl_at hr
  refine .inr ⟨h2.1,h2.2,h3.1.1,h3.1.2,h3.2.2,h3.2.1⟩
end
end Go.Proofs.YtmmfpkkamgapkaaGreat.X
