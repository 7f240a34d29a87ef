/- A step of a thread,in memory and in the graph. No program in sight. -/
import Derived.Test.YtmmfpkkamgapkaaGreatXu4
import Derived.Test.YtmmfpkkamgapkaaGreatXq5
import Derived.Test.YtmmfpkkamgapkaaGreatXu8
import Derived.Test.YtmmfpkkamgapkaaGreatXf2
namespace Go.Proofs.YtmmfpkkamgapkaaGreat.X
open Go Go.RowKit
set_option linter.unusedVariables false
def vis (W:Int)(xs ys:List Int):Nat->List Int->Int->List Int
 | 0,o,_=>o
 | n + 1,o,a=>if rlB W xs ys a=true/\a∉o then (ptrs W xs ys a).foldl (vis W xs ys n) (o++[a]) else o
def vfd (W:Int)(xs ys:List Int)(n:Nat)(o l:List Int)(k:Int):List Int:=(l.take k.toNat).foldl (vis W xs ys n) o
def fuelN:Nat:=8193
def rch (W:Int)(xs ys l:List Int):List Int:=l.foldl (vis W xs ys fuelN) []
def spots (W:Int):List Int:=(List.range W.toNat).map (fun i:Nat=>4294967296 + (i:Int))++(List.range W.toNat).map (fun i:Nat=>8589934592 + (i:Int))
def fre (W:Int)(xs ys o:List Int):Int:=(((spots W).filter fun a=>rlB W xs ys a && !decide (a∈o)).length:Int)
def Vk (W:Int)(xs ys o:List Int):Prop:=U64s o/\(o.length:Int) + fre W xs ys o<=8192
section
variable {W:Int} {xs ys:List Int} {n:Nat} {o l:List Int} {a k:Int}
theorem flt_le {p q:Int->Bool}(hpq:∀ y,q y=true->p y=true):∀ l:List Int,(l.filter q).length<=(l.filter p).length
 | []=>by simp
 | z :: l=>by
  have ih:=flt_le hpq l
  cases hq:q z with
  | true=>simp [hq,hpq z hq]; omega
  | false=>cases hp:p z <;> simp [hq,hp] <;> omega
theorem flt_lt {p q:Int->Bool}{x:Int}(hx:p x=true)(hy:q x=false)(hpq:∀ y,q y=true->p y=true):∀ {l:List Int},x∈l->(l.filter q).length<(l.filter p).length
 | [],h=>by cases h
 | y :: l,h=>by
  have hle:=flt_le hpq l
  rcases List.mem_cons.1 h with rfl | h
  ·simp [hx,hy]; omega
  ·have ih:=flt_lt hx hy hpq h
   cases hq:q y with
   | true=>simp [hq,hpq y hq]; omega
   | false=>cases hp:p y <;> simp [hq,hp] <;> omega
theorem rlB_spot (h:rlB W xs ys a=true):a∈spots W:=by
 have h1:=(of_decide_eq_true h).1
 obtain ⟨g,_⟩:=oErr_ok W xs ys a h1
 unfold spots
 by_cases e:a / 4294967296=1
 ·exact List.mem_append_left _ (List.mem_map.2 ⟨(a % 4294967296).toNat,List.mem_range.2 om,(by show (4294967296:Int) + (((a % 4294967296).toNat:Nat):Int)=a; omega)⟩)
 ·exact List.mem_append_right _ (List.mem_map.2 ⟨(a % 4294967296).toNat,List.mem_range.2 om,(by show (8589934592:Int) + (((a % 4294967296).toNat:Nat):Int)=a; omega)⟩)
theorem fre_lt (h:rlB W xs ys a=true)(h2:a∉o):fre W xs ys (o++[a])<fre W xs ys o:=by
 unfold fre
 have:=flt_lt (p:=fun b=>rlB W xs ys b && !decide (b∈o)) (q:=fun b=>rlB W xs ys b && !decide (b∈o++[a])) (x:=a) (by simp [h,h2]) (by simp) (fun y hy=>by
  simp only [Bool.and_eq_true,Bool.not_eq_true',decide_eq_false_iff_not,List.mem_append,not_or] at *
  exact ⟨hy.1,hy.2.1⟩) (rlB_spot h)
 omega
theorem fre_0:0<=fre W xs ys o:=by unfold fre; omega
theorem fre_le (h:0<=W/\W<=4096):fre W xs ys o<=8192:=by
 unfold fre
 have:=List.length_filter_le (fun a=>rlB W xs ys a && !decide (a∈o)) (spots W)
 have h2:(spots W).length=W.toNat + W.toNat:=by simp [spots]
 omega
theorem rlB_u64 (h:rlB W xs ys a=true):0<=a/\a<=18446744073709551615:=by
 have h1:=(of_decide_eq_true h).1
 obtain ⟨g,_⟩:=oErr_ok W xs ys a h1
 omega
theorem vk_add (h:Vk W xs ys o)(hr:rlB W xs ys a=true)(hn:a∉o):Vk W xs ys (o++[a]):=by
 refine ⟨h.1.append (U64s.cons (rlB_u64 hr) U64s.nil),?_⟩
 have:=fre_lt hr hn; have:=h.2
 simp only [List.length_append,List.length_singleton]; omega
mutual
theorem vis_ok (W:Int)(xs ys:List Int):∀ (n:Nat) (o:List Int) (a:Int),Vk W xs ys o->Vk W xs ys (vis W xs ys n o a)/\fre W xs ys (vis W xs ys n o a)<=fre W xs ys o
 | 0,o,a,h=>⟨h,Int.le_refl _⟩
 | n + 1,o,a,h=>by
  unfold vis
  by_cases hc:rlB W xs ys a=true/\a∉o
  ·rw [if_pos hc]
   obtain ⟨g1,g2⟩:=fold_ok W xs ys n (ptrs W xs ys a) (o++[a]) (vk_add h hc.1 hc.2)
   exact ⟨g1,by have:=fre_lt hc.1 hc.2; omega⟩
  ·rw [if_neg hc]; exact ⟨h,Int.le_refl _⟩
theorem fold_ok (W:Int)(xs ys:List Int)(n:Nat):∀ (l o:List Int),Vk W xs ys o->Vk W xs ys (l.foldl (vis W xs ys n) o)/\fre W xs ys (l.foldl (vis W xs ys n) o)<=fre W xs ys o
 | [],o,h=>⟨h,Int.le_refl _⟩
 | b :: l,o,h=>by
  obtain ⟨g1,g2⟩:=vis_ok W xs ys n o b h
  obtain ⟨g3,g4⟩:=fold_ok W xs ys n l _ g1
  exact ⟨g3,by simp only [List.foldl_cons]; omega⟩
end
theorem vfd_ok (h:Vk W xs ys o):Vk W xs ys (vfd W xs ys n o l k)/\fre W xs ys (vfd W xs ys n o l k)<=fre W xs ys o:=fold_ok W xs ys n _ o h
theorem vfd_next (h0:0<=k)(h:k<(l.length:Int)):vis W xs ys n (vfd W xs ys n o l k) (ix l k)=vfd W xs ys n o l (k + 1):=by
 unfold vfd
 rw [take_next h0 h,List.foldl_append]; rfl
theorem vfd_end (h:(l.length:Int)<=k):vfd W xs ys n o l k=l.foldl (vis W xs ys n) o:=by
 unfold vfd; rw [List.take_of_length_le om]
theorem vis_no (h:¬ (rlB W xs ys a=true/\a∉o)):vis W xs ys (n + 1) o a=o:=by unfold vis; rw [if_neg h]
theorem vis_yes (h:rlB W xs ys a=true)(h2:a∉o)(hk:((ptrs W xs ys a).length:Int)<=k):vfd W xs ys n (o++[a]) (ptrs W xs ys a) k=vis W xs ys (n + 1) o a:=by
 unfold vis; rw [if_pos ⟨h,h2⟩,vfd_end hk]
end
section
variable {W:Int} {xs ys:List Int} {n:Nat} {o l:List Int} {a k:Int}
theorem vk_nil (h:0<=W/\W<=4096):Vk W xs ys []:=⟨U64s.nil,by have:=fre_le (xs:=xs) (ys:=ys) (o:=[]) h; simpa using this⟩
theorem fre_fuel (h:0<=W/\W<=4096):fre W xs ys o<((fuelN:Nat):Int):=by
 have:=fre_le (xs:=xs) (ys:=ys) (o:=o) h
 unfold fuelN; omega
theorem not_in (h:hasB o a=false):a∉o:=of_decide_eq_false h
theorem vis_n3 (h:hasB o a=true):o=vis W xs ys (n + 1) o a:=(vis_no (fun hc=>hc.2 (of_decide_eq_true h))).symm
theorem vk_len (h:Vk W xs ys o):(o.length:Int)<=8192:=by have:=h.2; have:=fre_0 (W:=W) (xs:=xs) (ys:=ys) (o:=o); omega
theorem rch_ok (h:0<=W/\W<=4096):U64s (rch W xs ys l)/\((rch W xs ys l).length:Int)<=8192:=by
 have:=(fold_ok W xs ys fuelN l [] (vk_nil h)).1
 exact ⟨this.1,vk_len this⟩
theorem rch_okx (W:Int)(xs ys l:List Int)(h:0<=W/\W<=4096):U64s (rch W xs ys l)/\((rch W xs ys l).length:Int)<=8192:=rch_ok h
theorem rch_end (h:(l.length:Int)<=k):vfd W xs ys fuelN [] l k=rch W xs ys l:=vfd_end h
end
section
variable {W:Int} {xs ys:List Int} {n:Nat} {o l:List Int} {a k:Int}
theorem rl0:rlB W xs ys 0=false:=by
 unfold rlB
 refine decide_eq_false (fun h=>?_)
 have:=(oErr_ok W xs ys 0 h.1).1
 omega
mutual
theorem vis_pre (W:Int)(xs ys:List Int):∀ (n:Nat) (o:List Int) (a:Int),o <+: vis W xs ys n o a
 | 0,o,a=>List.prefix_refl _
 | n + 1,o,a=>by
  unfold vis
  split
  ·exact (List.prefix_append o [a]).trans (fold_pre W xs ys n _ _)
  ·exact List.prefix_refl _
theorem fold_pre (W:Int)(xs ys:List Int)(n:Nat):∀ (l o:List Int),o <+: l.foldl (vis W xs ys n) o
 | [],o=>List.prefix_refl _
 | b :: l,o=>(vis_pre W xs ys n o b).trans (fold_pre W xs ys n l _)
end
def Sd (W:Int)(xs ys l:List Int):Prop:=∀ x∈l,(ptrs W xs ys x).all (okB l)=true
mutual
theorem vis_in (W:Int)(xs ys l:List Int)(hs:Sd W xs ys l):∀ (n:Nat) (o:List Int) (a:Int),(∀ x∈o,x∈l)->(a=0\/a∈l)->∀ x∈vis W xs ys n o a,x∈l
 | 0,o,a,h,_=>h
 | n + 1,o,a,h,ha=>by
  unfold vis
  split
  ·rename_i hc
   have hal:a∈l:=ha.resolve_left (fun e=>by rw [e,rl0] at hc; exact absurd hc.1 (by decide))
   refine fold_in W xs ys l hs n _ _ (fun x hx=>?_) (fun x hx=>?_)
   ·rcases List.mem_append.1 hx with hx | hx
    ·exact h x hx
    ·rw [List.mem_singleton.1 hx]; exact hal
   ·have:=List.all_eq_true.1 (hs a hal) x hx
    simpa [okB] using this
  ·exact h
theorem fold_in (W:Int)(xs ys l:List Int)(hs:Sd W xs ys l)(n:Nat):∀ (q o:List Int),(∀ x∈o,x∈l)->(∀ x∈q,x=0\/x∈l)->∀ x∈q.foldl (vis W xs ys n) o,x∈l
 | [],o,h,_=>h
 | b :: q,o,h,hq=>fold_in W xs ys l hs n q _ (vis_in W xs ys l hs n o b h (hq b List.mem_cons_self)) (fun x hx=>hq x (List.mem_cons_of_mem _ hx))
end
theorem ix_mem (h0:0<=k)(h:k<(l.length:Int)):ix l k∈l:=by
 have h3:k.toNat<l.length:=om
 have:ix l k=l[k.toNat]:=by simp [ix,h3]
 rw [this]; exact List.getElem_mem h3
theorem vis_mem (h:rlB W xs ys a=true):a∈vis W xs ys (n + 1) o a:=by
 unfold vis
 by_cases hc:a∈o
 ·rw [if_neg (fun h2=>h2.2 hc)]; exact hc
 ·rw [if_pos ⟨h,hc⟩]
  exact (fold_pre W xs ys n _ _).subset (List.mem_append_right _ List.mem_cons_self)
end
section
variable {W:Int} {xs ys:List Int} {n:Nat} {o l:List Int} {a k i s lim:Int}
mutual
theorem vis_nd (W:Int)(xs ys:List Int):∀ (n:Nat) (o:List Int) (a:Int),o.Nodup->(vis W xs ys n o a).Nodup
 | 0,o,a,h=>h
 | n + 1,o,a,h=>by
  unfold vis
  split
  ·rename_i hc
   refine fold_nd W xs ys n _ _ ?_
   rw [List.nodup_append]
   refine ⟨h,by simp,fun x hx y hy e=>?_⟩
   rw [List.mem_singleton.1 hy] at e
   exact hc.2 (e ▸ hx)
  ·exact h
theorem fold_nd (W:Int)(xs ys:List Int)(n:Nat):∀ (l o:List Int),o.Nodup->(l.foldl (vis W xs ys n) o).Nodup
 | [],o,h=>h
 | b :: l,o,h=>fold_nd W xs ys n l _ (vis_nd W xs ys n o b h)
end
theorem nd_ix {r:List Int}(h:r.Nodup)(k0:0<=k)(i0:0<=i)(hi:i<(r.length:Int)):(r.length:Int)<=k\/k=i\/ix r k≠ix r i:=by
 by_cases hk:(r.length:Int)<=k
 ·exact .inl hk
 ·by_cases e:k=i
  ·exact .inr (.inl e)
  ·refine .inr (.inr (fun he=>?_))
   have hk3:k.toNat<r.length:=om
   have hi3:i.toNat<r.length:=om
   have e1:ix r k=r[k.toNat]:=by simp [ix,hk3]
   have e2:ix r i=r[i.toNat]:=by simp [ix,hi3]
   rw [e1,e2] at he
   have hp:=List.pairwise_iff_getElem.1 h
   rcases Nat.lt_or_ge k.toNat i.toNat with hlt | hge
   ·exact hp _ _ hk3 hi3 hlt he
   ·exact hp _ _ hi3 hk3 om he.symm
mutual
theorem vis_from (W:Int)(xs ys:List Int):∀ (n:Nat) (o:List Int) (a:Int),∀ x∈vis W xs ys n o a,x∈o\/x=a\/∃ y∈vis W xs ys n o a,x∈ptrs W xs ys y
 | 0,o,a,x,hx=>.inl hx
 | n + 1,o,a,x,hx=>by
  unfold vis at hx ⊢
  split at hx
  ·rename_i hc
   rw [if_pos hc]
   rcases fold_from W xs ys n _ _ x hx with h | h | h
   ·rcases List.mem_append.1 h with h | h
    ·exact .inl h
    ·exact .inr (.inl (List.mem_singleton.1 h))
   ·exact .inr (.inr ⟨a,(fold_pre W xs ys n _ _).subset (List.mem_append_right _ List.mem_cons_self),h⟩)
   ·exact .inr (.inr h)
  ·exact .inl hx
theorem fold_from (W:Int)(xs ys:List Int)(n:Nat):∀ (l o:List Int),∀ x∈l.foldl (vis W xs ys n) o,x∈o\/x∈l\/∃ y∈l.foldl (vis W xs ys n) o,x∈ptrs W xs ys y
 | [],o,x,hx=>.inl hx
 | b :: l,o,x,hx=>by
  simp only [List.foldl_cons] at hx ⊢
  rcases fold_from W xs ys n l _ x hx with h | h | h
  ·rcases vis_from W xs ys n o b x h with h | h | ⟨y,hy,h⟩
   ·exact .inl h
   ·exact .inr (.inl (h ▸ List.mem_cons_self))
   ·exact .inr (.inr ⟨y,(fold_pre W xs ys n l _).subset hy,h⟩)
  ·exact .inr (.inl (List.mem_cons_of_mem _ h))
  ·exact .inr (.inr h)
end
section
variable {r:List Int}
end
theorem fold_mem {v:Int}(hr:rlB W xs ys v=true):∀ (l o:List Int),v∈l->v∈l.foldl (vis W xs ys (n + 1)) o
 | [],o,h=>by cases h
 | b :: l,o,h=>by
  simp only [List.foldl_cons]
  rcases List.mem_cons.1 h with rfl | h
  ·exact (fold_pre W xs ys (n + 1) l _).subset (vis_mem hr)
  ·exact fold_mem hr l _ h
mutual
theorem vis_cl (W:Int)(xs ys:List Int):∀ (n:Nat) (o:List Int) (a:Int),Vk W xs ys o->fre W xs ys o<(n:Int)->∀ x∈vis W xs ys n o a,x∉o->∀ v∈ptrs W xs ys x,rlB W xs ys v=true->v∈vis W xs ys n o a
 | 0,o,a,_,h,x,hx,hn=>absurd hx hn
 | n + 1,o,a,hv,h,x,hx,hn=>by
  unfold vis at hx ⊢
  intro v hvx hr
  split at hx
  ·rename_i hc
   rw [if_pos hc]
   have h1:=fre_lt hc.1 hc.2
   have h2:=fre_0 (W:=W) (xs:=xs) (ys:=ys) (o:=o++[a])
   obtain ⟨m,rfl⟩ : ∃ m,n=m + 1:=⟨n - 1,om⟩
   by_cases e:x=a
   ·subst e; exact fold_mem hr _ _ hvx
   ·exact fold_cl W xs ys (m + 1) _ _ (vk_add hv hc.1 hc.2) om x hx (fun hq=>(List.mem_append.1 hq).elim hn (fun hq=>e (List.mem_singleton.1 hq))) v hvx hr
  ·exact absurd hx hn
theorem fold_cl (W:Int)(xs ys:List Int)(n:Nat):∀ (l o:List Int),Vk W xs ys o->fre W xs ys o<(n:Int)->∀ x∈l.foldl (vis W xs ys n) o,x∉o->∀ v∈ptrs W xs ys x,rlB W xs ys v=true->v∈l.foldl (vis W xs ys n) o
 | [],o,_,_,x,hx,hn=>absurd hx hn
 | b :: l,o,hv,h,x,hx,hn=>by
  simp only [List.foldl_cons] at hx ⊢
  intro v hvx hr
  obtain ⟨g1,g2⟩:=vis_ok W xs ys n o b hv
  by_cases e:x∈vis W xs ys n o b
  ·exact (fold_pre W xs ys n l _).subset (vis_cl W xs ys n o b hv h x e hn v hvx hr)
  ·exact fold_cl W xs ys n l _ g1 om x hx e v hvx hr
end
mutual
theorem vis_rl (W:Int)(xs ys:List Int):∀ (n:Nat) (o:List Int) (a:Int),(∀ x∈o,rlB W xs ys x=true)->∀ x∈vis W xs ys n o a,rlB W xs ys x=true
 | 0,o,a,h=>h
 | n + 1,o,a,h=>by
  unfold vis
  split
  ·rename_i hc
   exact fold_rl W xs ys n _ _ (fun x hx=>(List.mem_append.1 hx).elim (h x) (fun hx=>by rw [List.mem_singleton.1 hx]; exact hc.1))
  ·exact h
theorem fold_rl (W:Int)(xs ys:List Int)(n:Nat):∀ (l o:List Int),(∀ x∈o,rlB W xs ys x=true)->∀ x∈l.foldl (vis W xs ys n) o,rlB W xs ys x=true
 | [],o,h=>h
 | b :: l,o,h=>fold_rl W xs ys n l _ (vis_rl W xs ys n o b h)
end
end
set_option linter.unusedVariables false
structure Nd where
 (t l m:Int) (f:List Int)
abbrev nzd:Nd:=⟨0,0,0,[]⟩
def ndA (ns:List Nd)(k:Int):Nd:=ns.getD k.toNat nzd
def gpt (n:Nd):List Int:=(ptL n.l n.m (Int.toNat n.l)).map fun i=>ix n.f i
def gvis (ns:List Nd):Nat->List Int->Int->List Int
 | 0,o,_=>o
 | n + 1,o,h=>if h≠0/\h∉o then (gpt (ndA ns (h - 1))).foldl (gvis ns n) (o++[h]) else o
def gord (ns:List Nd)(rt:List Int):List Int:=rt.foldl (gvis ns fuelN) []
def adr (l:List Int)(h:Int):Int:=if h=0 then 0 else ix l (h - 1)
def plc (l:List Int)(a:Int):Int:=if a=0 then 0 else if a∈l then (l.idxOf a:Int) + 1 else -1
def pic (o:List Int)(h:Int):Int:=if h∈o then (o.idxOf h:Int) + 1 else 0
abbrev tT (xs ys:List Int)(a:Int):Int:=ldw xs ys a / 72057594037927936
abbrev tL (xs ys:List Int)(a:Int):Int:=(ldw xs ys a / 4294967296) % 16777216
abbrev tM (xs ys:List Int)(a:Int):Int:=ldw xs ys a % 4294967296
def ndO (xs ys l:List Int)(a:Int):Nd:=⟨tT xs ys a,tL xs ys a,tM xs ys a,(List.range (tL xs ys a).toNat).map fun i:Nat=>if isPtr (tL xs ys a) (tM xs ys a) i=true then plc l (ldw xs ys (a + 2 + i)) else ldw xs ys (a + 2 + i)⟩
def ndC (ns:List Nd)(o:List Int)(h:Int):Nd:=⟨(ndA ns (h - 1)).t,(ndA ns (h - 1)).l,(ndA ns (h - 1)).m,(List.range (ndA ns (h - 1)).l.toNat).map fun i:Nat=>if isPtr (ndA ns (h - 1)).l (ndA ns (h - 1)).m i=true then pic o (ix (ndA ns (h - 1)).f i) else ix (ndA ns (h - 1)).f i⟩
theorem ptL_has {l m:Int} : ∀ {k i:Nat},i<k->isPtr l m i=true->(i:Int)∈ptL l m k
 | 0,i,h,_=>absurd h om
 | k + 1,i,h,hp=>by
  unfold ptL
  by_cases e:i=k
  ·subst e; rw [if_pos hp]; simp
  ·have:=ptL_has (k:=k) (i:=i) om hp
   split
   ·exact List.mem_append.2 (.inl this)
   ·exact this
structure Rep (W:Int) (xs ys l:List Int) (ns:List Nd):Prop where
 len:ns.length=l.length
 nd:l.Nodup
 rl:∀ a∈l,rlB W xs ys a=true
 hd:∀ k,0<=k->k<(l.length:Int)->(ndA ns k).t=tT xs ys (ix l k)/\(ndA ns k).l=tL xs ys (ix l k)/\(ndA ns k).m=tM xs ys (ix l k)
 fl:∀ k,0<=k->k<(l.length:Int)->((ndA ns k).f.length:Int)=tL xs ys (ix l k)
 fw:∀ k,0<=k->k<(l.length:Int)->∀ i,0<=i->i<tL xs ys (ix l k)->ldw xs ys (ix l k + 2 + i)=(if isPtr (tL xs ys (ix l k)) (tM xs ys (ix l k)) i=true then adr l (ix (ndA ns k).f i) else ix (ndA ns k).f i) /\
  (isPtr (tL xs ys (ix l k)) (tM xs ys (ix l k)) i=true->0<=ix (ndA ns k).f i/\ix (ndA ns k).f i<=(l.length:Int))
section
variable {W:Int} {xs ys l:List Int} {ns:List Nd}
theorem rl_oe {a:Int}(h:rlB W xs ys a=true):oErr W xs ys a=0:=(of_decide_eq_true h).1
theorem adr_0:adr l 0=0:=if_pos rfl
theorem adr_1 {h:Int}(h1:1<=h):adr l h=ix l (h - 1):=if_neg om
theorem adr_mem {h:Int}(h1:1<=h)(h2:h<=(l.length:Int)):adr l h∈l:=by rw [adr_1 h1]; exact ix_mem om om
theorem adr_inj (hn:l.Nodup){g h:Int}(g1:1<=g)(g2:g<=(l.length:Int))(h1:1<=h)(h2:h<=(l.length:Int))(e:adr l g=adr l h):g=h:=by
 rw [adr_1 g1,adr_1 h1] at e
 rcases nd_ix hn (k:=g - 1) (i:=h - 1) om om om with k | k | k
 ·omega
 ·omega
 ·exact absurd e k
theorem Rep.nz (R:Rep W xs ys l ns){a:Int}(h:a∈l):a≠0:=fun e=>by
 subst e
 have:=R.rl 0 h
 rw [rl0] at this; cases this
theorem Rep.pt (R:Rep W xs ys l ns){k:Int}(h0:0<=k)(h1:k<(l.length:Int)):ptrs W xs ys (ix l k)=(gpt (ndA ns k)).map (adr l)/\∀ p∈gpt (ndA ns k),0<=p/\p<=(l.length:Int):=by
 obtain ⟨_,e2,e3⟩:=R.hd k h0 h1
 have ho:=rl_oe (R.rl _ (ix_mem h0 h1))
 have hL:0<=tL xs ys (ix l k):=by unfold tL; omega
 have key:∀ i∈ptL (tL xs ys (ix l k)) (tM xs ys (ix l k)) (Int.toNat (tL xs ys (ix l k))),ldw xs ys (ix l k + 2 + i)=adr l (ix (ndA ns k).f i)/\0<=ix (ndA ns k).f i/\ix (ndA ns k).f i<=(l.length:Int):=fun i hi=>by
  obtain ⟨p1,p2,p3⟩:=ptL_in _ _ hi
  obtain ⟨q1,q2⟩:=R.fw k h0 h1 i p2 om
  rw [if_pos p1] at q1
  exact ⟨q1,q2 p1⟩
 refine ⟨?_,fun p hp=>?_⟩
 ·rw [ptrs_1 ho]
  unfold gpt
  rw [e2,e3,List.map_map]
  exact List.map_congr_left fun i hi=>(key i hi).1
 ·unfold gpt at hp
  rw [e2,e3] at hp
  obtain ⟨i,hi,rfl⟩:=List.mem_map.1 hp
  exact (key i hi).2
abbrev Hs (N:Nat)(o:List Int):Prop:=∀ x∈o,1<=x/\x<=(N:Int)
abbrev H0 (N:Nat)(o:List Int):Prop:=∀ x∈o,0<=x/\x<=(N:Int)
theorem adr_in (hn:l.Nodup){o:List Int}{h:Int}(ho:Hs l.length o)(h1:1<=h)(h2:h<=(l.length:Int)):adr l h∈o.map (adr l)↔h∈o:=by
 constructor
 ·intro hm
  obtain ⟨g,hg,e⟩:=List.mem_map.1 hm
  have:=adr_inj hn (ho g hg).1 (ho g hg).2 h1 h2 e
  exact this ▸ hg
 ·exact fun hm=>List.mem_map.2 ⟨h,hm,rfl⟩
mutual
theorem sim_vis (R:Rep W xs ys l ns):∀ (n:Nat) (o:List Int) (h:Int),Hs l.length o->0<=h/\h<=(l.length:Int)->vis W xs ys n (o.map (adr l)) (adr l h)=(gvis ns n o h).map (adr l)/\Hs l.length (gvis ns n o h)
 | 0,o,h,ho,hh=>⟨rfl,ho⟩
 | n + 1,o,h,ho,hh=>by
  unfold vis gvis
  by_cases h0:h=0
  ·subst h0
   rw [adr_0,if_neg (fun hc=>by rw [rl0] at hc; cases hc.1),if_neg (fun hc=>hc.1 rfl)]
   exact ⟨rfl,ho⟩
  ·have h1:1<=h:=om
   have hr:=R.rl _ (adr_mem h1 hh.2)
   by_cases hm:h∈o
   ·rw [if_neg (fun hc=>hc.2 ((adr_in R.nd ho h1 hh.2).2 hm)),if_neg (fun hc=>hc.2 hm)]
    exact ⟨rfl,ho⟩
   ·rw [if_pos ⟨hr,fun hc=>hm ((adr_in R.nd ho h1 hh.2).1 hc)⟩,if_pos ⟨h0,hm⟩]
    obtain ⟨e,hp⟩:=R.pt (k:=h - 1) om om
    rw [<- adr_1 h1] at e
    rw [e,show o.map (adr l)++[adr l h]=(o++[h]).map (adr l) by simp]
    exact sim_fold R n _ _ (fun x hx=>(List.mem_append.1 hx).elim (ho x) (fun hx=>by rw [List.mem_singleton.1 hx]; exact ⟨h1,hh.2⟩)) hp
theorem sim_fold (R:Rep W xs ys l ns)(n:Nat):∀ (q o:List Int),Hs l.length o->H0 l.length q->(q.map (adr l)).foldl (vis W xs ys n) (o.map (adr l))=(q.foldl (gvis ns n) o).map (adr l)/\Hs l.length (q.foldl (gvis ns n) o)
 | [],o,ho,_=>⟨rfl,ho⟩
 | p :: q,o,ho,hq=>by
  simp only [List.map_cons,List.foldl_cons]
  obtain ⟨e,h1⟩:=sim_vis R n o p ho (hq p List.mem_cons_self)
  rw [e]
  exact sim_fold R n q _ h1 (fun x hx=>hq x (List.mem_cons_of_mem _ hx))
end
theorem sim_rch (R:Rep W xs ys l ns){rt:List Int}(hr:H0 l.length rt):rch W xs ys (rt.map (adr l))=(gord ns rt).map (adr l)/\Hs l.length (gord ns rt) :=
 sim_fold R fuelN rt [] (fun x hx=>nomatch hx) hr
theorem gord_root (R:Rep W xs ys l ns){rt:List Int}(hr:H0 l.length rt){s:Int}(hs:s∈rt)(h0:s≠0):s∈gord ns rt:=by
 obtain ⟨e,ho⟩:=sim_rch R hr
 have h1:=hr s hs
 have:=fold_mem (n:=8192) (R.rl _ (adr_mem (l:=l) (h:=s) om h1.2)) (rt.map (adr l)) [] (List.mem_map.2 ⟨s,hs,rfl⟩)
 have h2:adr l s∈rch W xs ys (rt.map (adr l)):=this
 rw [e] at h2
 exact (adr_in R.nd ho om h1.2).1 h2
theorem gord_cl (R:Rep W xs ys l ns)(hW:0<=W/\W<=4096){rt:List Int}(hr:H0 l.length rt){h p:Int}(hh:h∈gord ns rt)(hp:p∈gpt (ndA ns (h - 1)))(h0:p≠0):p∈gord ns rt:=by
 obtain ⟨e,ho⟩:=sim_rch R hr
 have h1:=ho h hh
 obtain ⟨e2,hb⟩:=R.pt (k:=h - 1) om om
 have hb:=hb p hp
 have hx:adr l h∈rch W xs ys (rt.map (adr l)):=by rw [e]; exact List.mem_map.2 ⟨h,hh,rfl⟩
 have hv:adr l p∈ptrs W xs ys (adr l h):=by rw [adr_1 h1.1,e2]; exact List.mem_map.2 ⟨p,hp,rfl⟩
 have:=fold_cl W xs ys fuelN (rt.map (adr l)) [] (vk_nil hW) (fre_fuel hW) _ hx (by simp) _ hv (R.rl _ (adr_mem om hb.2))
 have h2:adr l p∈rch W xs ys (rt.map (adr l)):=this
 rw [e] at h2
 exact (adr_in R.nd ho om hb.2).1 h2
theorem idx_map (hn:l.Nodup):∀ {o:List Int} {h:Int},Hs l.length o->1<=h->h<=(l.length:Int)->(o.map (adr l)).idxOf (adr l h)=o.idxOf h
 | [],h,_,_,_=>rfl
 | x :: o,h,ho,h1,h2=>by
  simp only [List.map_cons,List.idxOf_cons]
  have hx:=ho x List.mem_cons_self
  by_cases e:x=h
  ·subst e; simp
  ·have e2:adr l x≠adr l h:=fun hc=>e (adr_inj hn hx.1 hx.2 h1 h2 hc)
   have ih:=idx_map hn (o:=o) (fun y hy=>ho y (List.mem_cons_of_mem _ hy)) h1 h2
   rw [beq_false_of_ne e2,beq_false_of_ne e]; simp [ih]
theorem plc_pic (hn:l.Nodup)(hz:∀ a∈l,a≠0){o:List Int}{h:Int}(ho:Hs l.length o)(h1:0<=h/\h<=(l.length:Int))(hm:h≠0->h∈o):plc (o.map (adr l)) (adr l h)=pic o h:=by
 unfold plc pic
 by_cases h0:h=0
 ·subst h0
  rw [adr_0,if_pos rfl,if_neg (fun hc=>by have:=(ho 0 hc).1; omega)]
 ·have g1:1<=h:=om
  rw [if_neg (hz _ (adr_mem g1 h1.2)),if_pos ((adr_in hn ho g1 h1.2).2 (hm h0)),if_pos (hm h0),idx_map hn ho g1 h1.2]
theorem can_nodes (R:Rep W xs ys l ns)(hW:0<=W/\W<=4096){rt:List Int}(hr:H0 l.length rt):(rch W xs ys (rt.map (adr l))).map (ndO xs ys (rch W xs ys (rt.map (adr l))))=(gord ns rt).map (ndC ns (gord ns rt)):=by
 obtain ⟨e,ho⟩:=sim_rch R hr
 rw [e,List.map_map]
 refine List.map_congr_left fun h hh=>?_
 have h1:=ho h hh
 obtain ⟨e1,e2,e3⟩:=R.hd (h - 1) om om
 simp only [Function.comp,ndO,ndC,e1,e2,e3,adr_1 h1.1]
 congr 1
 refine List.map_congr_left fun i hi=>?_
 have hi:=List.mem_range.1 hi
 obtain ⟨q1,q2⟩:=R.fw (h - 1) om om (i:Int) om om
 by_cases hp:isPtr (tL xs ys (ix l (h - 1))) (tM xs ys (ix l (h - 1))) (i:Int)=true
 ·rw [if_pos hp] at q1
  rw [if_pos hp,if_pos hp,q1]
  refine plc_pic R.nd (fun a ha=>R.nz ha) ho (q2 hp) (fun h0=>gord_cl R hW hr hh ?_ h0)
  unfold gpt
  rw [e2,e3]
  exact List.mem_map.2 ⟨i,(ptL_has hi hp),rfl⟩
 ·rw [if_neg hp] at q1
  rw [if_neg hp,if_neg hp,q1]
def ofB (W:Int)(xs ys:List Int)(rows:List (List Int)):Bool:=((rch W xs ys rows.flatten).all fun a=>(ptrs W xs ys a).all (okB (rch W xs ys rows.flatten))) && rows.all fun r=>r.all (okB (rch W xs ys rows.flatten))
def ofN (W:Int)(xs ys:List Int)(rows:List (List Int)):List Nd:=(rch W xs ys rows.flatten).map (ndO xs ys (rch W xs ys rows.flatten))
def ofS (W:Int)(xs ys:List Int)(rows:List (List Int)):List (List Int):=rows.map fun r=>r.map (plc (rch W xs ys rows.flatten))
def caN (ns:List Nd)(ss:List (List Int)):List Nd:=(gord ns ss.flatten).map (ndC ns (gord ns ss.flatten))
def caS (ns:List Nd)(ss:List (List Int)):List (List Int):=ss.map fun r=>r.map (pic (gord ns ss.flatten))
def rowsA (l:List Int)(ss:List (List Int)):List (List Int):=ss.map fun r=>r.map (adr l)
theorem okB_iff {l:List Int}{v:Int} : okB l v=true↔v=0\/v∈l:=by unfold okB; simp
theorem flat_rows {ss:List (List Int)} : (rowsA l ss).flatten=ss.flatten.map (adr l):=by
 unfold rowsA; rw [List.map_flatten]
theorem adr_plc {w:Int}(h:w=0\/w∈l)(hz:∀ a∈l,a≠0):adr l (plc l w)=w/\0<=plc l w/\plc l w<=(l.length:Int):=by
 unfold plc
 by_cases h0:w=0
 ·subst h0; rw [if_pos rfl]; exact ⟨adr_0,om,om⟩
 ·have hm:=h.resolve_left h0
  rw [if_neg h0,if_pos hm]
  have hi:=List.idxOf_lt_length_of_mem hm
  refine ⟨?_,om,om⟩
  rw [adr_1 om]
  unfold ix
  rw [show ((l.idxOf w:Int) + 1 - 1).toNat=l.idxOf w by omega,List.getD_eq_getElem?_getD,List.getElem?_eq_getElem hi]
  simp
theorem of_canon (R:Rep W xs ys l ns)(hW:0<=W/\W<=4096){ss:List (List Int)}(hs:H0 l.length ss.flatten):ofB W xs ys (rowsA l ss)=true/\ofN W xs ys (rowsA l ss)=caN ns ss/\ofS W xs ys (rowsA l ss)=caS ns ss:=by
 obtain ⟨e,ho⟩:=sim_rch R hs
 have hc:=can_nodes R hW hs
 unfold ofB ofN ofS caN caS
 rw [flat_rows]
 refine ⟨?_,hc,?_⟩
 ·rw [e,Bool.and_eq_true]
  constructor
  ·refine List.all_eq_true.2 fun a ha=>List.all_eq_true.2 fun v hv=>okB_iff.2 ?_
   obtain ⟨h,hh,rfl⟩:=List.mem_map.1 ha
   have h1:=ho h hh
   obtain ⟨e2,hb⟩:=R.pt (k:=h - 1) om om
   rw [adr_1 h1.1,e2] at hv
   obtain ⟨p,hp,rfl⟩:=List.mem_map.1 hv
   by_cases h0:p=0
   ·subst h0; exact .inl adr_0
   ·exact .inr (List.mem_map.2 ⟨p,gord_cl R hW hs hh hp h0,rfl⟩)
  ·unfold rowsA
   refine List.all_eq_true.2 fun r hr=>List.all_eq_true.2 fun v hv=>okB_iff.2 ?_
   obtain ⟨q,hq,rfl⟩:=List.mem_map.1 hr
   obtain ⟨s,hsq,rfl⟩:=List.mem_map.1 hv
   have hf:s∈ss.flatten:=List.mem_flatten.2 ⟨q,hq,hsq⟩
   by_cases h0:s=0
   ·subst h0; exact .inl adr_0
   ·exact .inr (List.mem_map.2 ⟨s,gord_root R hs hf h0,rfl⟩)
 ·rw [e]
  unfold rowsA
  rw [List.map_map]
  refine List.map_congr_left fun q hq=>?_
  simp only [Function.comp,List.map_map]
  refine List.map_congr_left fun s hsq=>?_
  have hf:s∈ss.flatten:=List.mem_flatten.2 ⟨q,hq,hsq⟩
  exact plc_pic R.nd (fun a ha=>R.nz ha) ho (hs s hf) (fun h0=>gord_root R hs hf h0)
theorem ndA_map {f:Int->Nd}{k:Int}(h0:0<=k)(h:k<(l.length:Int)):ndA (l.map f) k=f (ix l k):=by
 have h1:k.toNat<l.length:=om
 unfold ndA ix
 rw [List.getD_eq_getElem?_getD,List.getD_eq_getElem?_getD,List.getElem?_map,List.getElem?_eq_getElem h1]; rfl
theorem ix_range {f:Nat->Int}{n:Nat}{i:Int}(h0:0<=i)(h:i<(n:Int)):ix ((List.range n).map f) i=f i.toNat:=by
 have h1:i.toNat<n:=om
 unfold ix
 rw [List.getD_eq_getElem?_getD,List.getElem?_map,List.getElem?_range h1]; rfl
theorem of_rep (hW:0<=W/\W<=4096){rows:List (List Int)}(h:ofB W xs ys rows=true):Rep W xs ys (rch W xs ys rows.flatten) (ofN W xs ys rows)/\rows=rowsA (rch W xs ys rows.flatten) (ofS W xs ys rows)/\H0 (rch W xs ys rows.flatten).length (ofS W xs ys rows).flatten:=by
 unfold ofB at h
 rw [Bool.and_eq_true] at h
 obtain ⟨hp,hs⟩:=h
 unfold ofN ofS
 generalize hl:rch W xs ys rows.flatten=l at *
 have hrl:∀ a∈l,rlB W xs ys a=true:=by rw [<- hl]; exact fold_rl W xs ys fuelN _ [] (fun x hx=>nomatch hx)
 have hz:∀ a∈l,a≠0:=fun a ha e=>by subst e; have:=hrl 0 ha; rw [rl0] at this; cases this
 refine ⟨⟨by simp,by rw [<- hl]; exact fold_nd W xs ys fuelN _ [] List.nodup_nil,hrl,fun k h0 h1=>?_,fun k h0 h1=>?_,fun k h0 h1 i i0 i1=>?_⟩,?_,?_⟩
 ·rw [ndA_map h0 h1]; exact ⟨rfl,rfl,rfl⟩
 ·rw [ndA_map h0 h1]; unfold ndO; simp only [List.length_map,List.length_range]; unfold tL; omega
 ·rw [ndA_map h0 h1]
  have e:ix (ndO xs ys l (ix l k)).f i=(if isPtr (tL xs ys (ix l k)) (tM xs ys (ix l k)) i=true then plc l (ldw xs ys (ix l k + 2 + i)) else ldw xs ys (ix l k + 2 + i)):=by
   unfold ndO
   rw [ix_range i0 om,show ((i.toNat:Nat):Int)=i by omega]
  rw [e]
  by_cases hi:isPtr (tL xs ys (ix l k)) (tM xs ys (ix l k)) i=true
  ·simp only [if_pos hi]
   have hm:ldw xs ys (ix l k + 2 + i)∈ptrs W xs ys (ix l k):=by
    rw [ptrs_1 (rl_oe (hrl _ (ix_mem h0 h1)))]
    refine List.mem_map.2 ⟨i,?_,rfl⟩
    have:=ptL_has (l:=tL xs ys (ix l k)) (m:=tM xs ys (ix l k)) (k:=Int.toNat (tL xs ys (ix l k))) (i:=i.toNat) om (by rw [show ((i.toNat:Nat):Int)=i by omega]; exact hi)
    rwa [show ((i.toNat:Nat):Int)=i by omega] at this
   have:=adr_plc (okB_iff.1 (List.all_eq_true.1 (List.all_eq_true.1 hp _ (ix_mem h0 h1)) _ hm)) hz
   exact ⟨this.1.symm,fun _=>this.2⟩
  ·simp only [if_neg hi]
   exact ⟨trivial,fun hc=>absurd hc hi⟩
 ·unfold rowsA
  rw [List.map_map]
  conv=>lhs; rw [<- List.map_id rows]
  refine List.map_congr_left fun r hr=>?_
  simp only [Function.comp,List.map_map,id]
  conv=>lhs; rw [<- List.map_id r]
  refine List.map_congr_left fun w hw=>?_
  exact (adr_plc (okB_iff.1 (List.all_eq_true.1 (List.all_eq_true.1 hs _ hr) _ hw)) hz).1.symm
 ·intro x hx
  obtain ⟨q,hq,hxq⟩:=List.mem_flatten.1 hx
  obtain ⟨r,hr,rfl⟩:=List.mem_map.1 hq
  obtain ⟨w,hw,rfl⟩:=List.mem_map.1 hxq
  exact (adr_plc (okB_iff.1 (List.all_eq_true.1 (List.all_eq_true.1 hs _ hr) _ hw)) hz).2
end
section
variable {W:Int} {xs ys X Y l:List Int} {ns:List Nd}
theorem oErr_congr {a:Int}(h:ldw X Y a=ldw xs ys a):oErr W X Y a=oErr W xs ys a:=by unfold oErr; rw [h]
theorem rlB_congr {a:Int}(h:ldw X Y a=ldw xs ys a):rlB W X Y a=rlB W xs ys a:=by unfold rlB; rw [oErr_congr h,h]
theorem tL_nn {a:Int} : 0<=tL xs ys a:=by unfold tL; omega
theorem rl_at {a:Int}(h:rlB W xs ys a=true):(1<=a / 4294967296/\a / 4294967296<=2)/\a % 4294967296 + tL xs ys a + 2<=W/\tL xs ys a<=16:=by
 obtain ⟨h1,h2,h3⟩:=oErr_ok W xs ys a (rl_oe h)
 have h4:=(of_decide_eq_true h).2
 unfold tL
 omega
theorem Rep.same (R:Rep W xs ys l ns)(hk:∀ a∈l,∀ j,0<=j->j<tL xs ys a + 2->ldw X Y (a + j)=ldw xs ys (a + j)):Rep W X Y l ns:=by
 have h0:∀ a∈l,ldw X Y a=ldw xs ys a:=fun a ha=>by
  have:=hk a ha 0 om (by have:=tL_nn (xs:=xs) (ys:=ys) (a:=a); omega)
  simpa using this
 have eL:∀ a∈l,tL X Y a=tL xs ys a:=fun a ha=>by unfold tL; rw [h0 a ha]
 have eM:∀ a∈l,tM X Y a=tM xs ys a:=fun a ha=>by unfold tM; rw [h0 a ha]
 have eT:∀ a∈l,tT X Y a=tT xs ys a:=fun a ha=>by unfold tT; rw [h0 a ha]
 refine ⟨R.len,R.nd,fun a ha=>by rw [rlB_congr (h0 a ha)]; exact R.rl a ha,fun k k0 k1=>?_,fun k k0 k1=>?_,fun k k0 k1 i i0 i1=>?_⟩
 ·rw [eT _ (ix_mem k0 k1),eL _ (ix_mem k0 k1),eM _ (ix_mem k0 k1)]; exact R.hd k k0 k1
 ·rw [eL _ (ix_mem k0 k1)]; exact R.fl k k0 k1
 ·rw [eL _ (ix_mem k0 k1)] at i1 ⊢
  rw [eM _ (ix_mem k0 k1),show ix l k + 2 + i=ix l k + (2 + i) by omega,hk _ (ix_mem k0 k1) (2 + i) om om,<- show ix l k + 2 + i=ix l k + (2 + i) by omega]
  exact R.fw k k0 k1 i i0 i1
def Dj (xs ys l:List Int):Prop:=∀ a∈l,∀ b∈l,a≠b->∀ i j,0<=i->i<tL xs ys a + 2->0<=j->j<tL xs ys b + 2->a + i≠b + j
def nset (ns:List Nd)(k i u:Int):List Nd:=ns.set k.toNat ⟨(ndA ns k).t,(ndA ns k).l,(ndA ns k).m,(ndA ns k).f.set i.toNat u⟩
theorem ndA_set {k q:Int}{n:Nd}(k0:0<=k)(k1:k<(ns.length:Int))(q0:0<=q):ndA (ns.set k.toNat n) q=if q=k then n else ndA ns q:=by
 unfold ndA
 rw [List.getD_eq_getElem?_getD]
 split
 ·rename_i e; subst e; rw [List.getElem?_set_self om]; rfl
 ·rw [List.getElem?_set_ne om,List.getD_eq_getElem?_getD]
theorem ix_set {f:List Int}{i j u:Int}(i0:0<=i)(i1:i<(f.length:Int))(j0:0<=j):ix (f.set i.toNat u) j=if j=i then u else ix f j:=by
 unfold ix
 rw [List.getD_eq_getElem?_getD]
 split
 ·rename_i e; subst e; rw [List.getElem?_set_self om]; rfl
 ·rw [List.getElem?_set_ne om,List.getD_eq_getElem?_getD]
theorem ix_nd (hn:l.Nodup){k q:Int}(k0:0<=k)(k1:k<(l.length:Int))(q0:0<=q)(q1:q<(l.length:Int))(h:k≠q):ix l k≠ix l q:=by
 rcases nd_ix hn (k:=k) (i:=q) k0 q0 q1 with g | g | g
 ·omega
 ·exact absurd g h
 ·exact g
theorem Rep.set (R:Rep W xs ys l ns)(D:Dj xs ys l)(hx:(xs.length:Int)=W)(hy:(ys.length:Int)=W)(hW:W<=4096){k i u v:Int}(k0:0<=k)(k1:k<(l.length:Int))(i0:0<=i)(i1:i<tL xs ys (ix l k))
  (hv:v=(if isPtr (tL xs ys (ix l k)) (tM xs ys (ix l k)) i=true then adr l u else u)) (hu:isPtr (tL xs ys (ix l k)) (tM xs ys (ix l k)) i=true->0<=u/\u<=(l.length:Int)) :
  Rep W (stx xs (ix l k + 2 + i) v) (sty ys (ix l k + 2 + i) v) l (nset ns k i u):=by
 have hm:=ix_mem k0 k1
 obtain ⟨s1,s2,s3⟩:=rl_at (R.rl _ hm)
 have oth:∀ b,(1<=b / 4294967296/\b / 4294967296<=2)->b≠ix l k + 2 + i->ldw (stx xs (ix l k + 2 + i) v) (sty ys (ix l k + 2 + i) v) b=ldw xs ys b:=fun b hb hne=>ldw_other v om hb hne
 have hw:∀ q,0<=q->q<(l.length:Int)->∀ j,0<=j->j<tL xs ys (ix l q) + 2->(q≠k\/j≠2 + i)->ldw (stx xs (ix l k + 2 + i) v) (sty ys (ix l k + 2 + i) v) (ix l q + j)=ldw xs ys (ix l q + j):=fun q q0 q1 j j0 j1 hq=>by
  obtain ⟨r1,r2,r3⟩:=rl_at (R.rl _ (ix_mem q0 q1))
  refine oth _ om (fun e=>?_)
  by_cases hqk:q=k
  ·subst hqk; omega
  ·exact D _ (ix_mem q0 q1) _ hm (ix_nd R.nd q0 q1 k0 k1 hqk) j (2 + i) j0 j1 om om om
 have h0:∀ q,0<=q->q<(l.length:Int)->ldw (stx xs (ix l k + 2 + i) v) (sty ys (ix l k + 2 + i) v) (ix l q)=ldw xs ys (ix l q):=fun q q0 q1=>by
  have:=hw q q0 q1 0 om (by have:=tL_nn (xs:=xs) (ys:=ys) (a:=ix l q); omega) (.inr om)
  simpa using this
 have ho:∀ a∈l,ldw (stx xs (ix l k + 2 + i) v) (sty ys (ix l k + 2 + i) v) a=ldw xs ys a:=fun a ha=>by
  obtain ⟨n,hn,rfl⟩:=List.mem_iff_getElem.1 ha
  have e:ix l (n:Int)=l[n]:=by unfold ix; rw [List.getD_eq_getElem?_getD]; simp [hn]
  have:=h0 (n:Int) om om
  rwa [e] at this
 have eL:∀ q,0<=q->q<(l.length:Int)->tL (stx xs (ix l k + 2 + i) v) (sty ys (ix l k + 2 + i) v) (ix l q)=tL xs ys (ix l q):=fun q q0 q1=>by unfold tL; rw [h0 q q0 q1]
 have eM:∀ q,0<=q->q<(l.length:Int)->tM (stx xs (ix l k + 2 + i) v) (sty ys (ix l k + 2 + i) v) (ix l q)=tM xs ys (ix l q):=fun q q0 q1=>by unfold tM; rw [h0 q q0 q1]
 have eT:∀ q,0<=q->q<(l.length:Int)->tT (stx xs (ix l k + 2 + i) v) (sty ys (ix l k + 2 + i) v) (ix l q)=tT xs ys (ix l q):=fun q q0 q1=>by unfold tT; rw [h0 q q0 q1]
 have hlen:=R.len
 have eN:∀ q,0<=q->ndA (nset ns k i u) q=if q=k then ⟨(ndA ns k).t,(ndA ns k).l,(ndA ns k).m,(ndA ns k).f.set i.toNat u⟩ else ndA ns q:=fun q q0=>ndA_set k0 om q0
 refine ⟨by unfold nset; simp [R.len],R.nd,fun a ha=>by rw [rlB_congr (ho a ha)]; exact R.rl a ha,fun q q0 q1=>?_,fun q q0 q1=>?_,fun q q0 q1 j j0 j1=>?_⟩
 ·rw [eT q q0 q1,eL q q0 q1,eM q q0 q1,eN q q0]
  have:=R.hd q q0 q1
  split
  ·rename_i e; subst e; exact this
  ·exact this
 ·rw [eL q q0 q1,eN q q0]
  have:=R.fl q q0 q1
  split
  ·rename_i e; subst e; simpa using this
  ·exact this
 ·rw [eL q q0 q1] at j1 ⊢
  rw [eM q q0 q1,eN q q0]
  have hq:=R.fw q q0 q1 j j0 j1
  by_cases hqk:q=k
  ·subst hqk
   have hf:=R.fl q q0 q1
   simp only [if_pos]
   rw [ix_set i0 om j0]
   by_cases hj:j=i
   ·subst hj
    have e1:ldw (stx xs (ix l q + 2 + j) v) (sty ys (ix l q + 2 + j) v) (ix l q + 2 + j)=v:=ldw_same v om om om rfl
    rw [e1,if_pos rfl]
    exact ⟨hv,hu⟩
   ·rw [if_neg hj,show ix l q + 2 + j=ix l q + (2 + j) by omega,hw q q0 q1 (2 + j) om om (.inr om),<- show ix l q + 2 + j=ix l q + (2 + j) by omega]
    exact hq
  ·rw [if_neg hqk,show ix l q + 2 + j=ix l q + (2 + j) by omega,hw q q0 q1 (2 + j) om om (.inl hqk),<- show ix l q + 2 + j=ix l q + (2 + j) by omega]
   exact hq
theorem ix_app {a k:Int}(k0:0<=k):ix (l++[a]) k=if k<(l.length:Int) then ix l k else if k=(l.length:Int) then a else 0:=by
 unfold ix
 rw [List.getD_eq_getElem?_getD]
 split
 ·rw [List.getElem?_append_left om,List.getD_eq_getElem?_getD]
 ·split
  ·rename_i h1 h2
   rw [show k.toNat=l.length by omega]; simp
  ·rw [List.getElem?_eq_none (by simp; omega)]; rfl
theorem adr_app {a h:Int}(h0:0<=h)(h1:h<=(l.length:Int)):adr (l++[a]) h=adr l h:=by
 unfold adr
 split
 ·rfl
 ·rw [ix_app om,if_pos om]
theorem ndA_app {n:Nd}{k:Int}(k0:0<=k):ndA (ns++[n]) k=if k<(ns.length:Int) then ndA ns k else if k=(ns.length:Int) then n else nzd:=by
 unfold ndA
 rw [List.getD_eq_getElem?_getD]
 split
 ·rw [List.getElem?_append_left om,List.getD_eq_getElem?_getD]
 ·split
  ·rename_i h1 h2
   rw [show k.toNat=ns.length by omega]; simp
  ·rw [List.getElem?_eq_none (by simp; omega)]; rfl
theorem ix_rep {n:Nat}{i:Int} : ix (List.replicate n 0) i=0:=by
 unfold ix
 rw [List.getD_eq_getElem?_getD,List.getElem?_replicate]
 split <;> rfl
theorem Rep.add (R:Rep W xs ys l ns){a t f m:Int}(ha:a∉l)(hr:rlB W xs ys a=true)(e1:tT xs ys a=t)(e2:tL xs ys a=f)(e3:tM xs ys a=m)(hz:∀ i,0<=i->i<f->ldw xs ys (a + 2 + i)=0) :
  Rep W xs ys (l++[a]) (ns++[⟨t,f,m,List.replicate f.toNat 0⟩]):=by
 have hlen:=R.len
 have hf:0<=f:=by rw [<- e2]; exact tL_nn
 refine ⟨by simp [R.len],?_,fun b hb=>?_,fun q q0 q1=>?_,fun q q0 q1=>?_,fun q q0 q1 j j0 j1=>?_⟩
 ·exact List.nodup_append.2 ⟨R.nd,by simp,fun x hx y hy e=>ha (by rw [List.mem_singleton.1 hy] at e; exact e ▸ hx)⟩
 ·rcases List.mem_append.1 hb with hb | hb
  ·exact R.rl b hb
  ·rw [List.mem_singleton.1 hb]; exact hr
 all_goals
  simp only [List.length_append,List.length_cons,List.length_nil] at q1
  rw [ix_app q0,ndA_app q0,hlen] at *
 ·by_cases h:q<(l.length:Int)
  ·rw [if_pos h,if_pos h]; exact R.hd q q0 h
  ·rw [if_neg h,if_neg h,if_pos om,if_pos om]; exact ⟨e1.symm,e2.symm,e3.symm⟩
 ·by_cases h:q<(l.length:Int)
  ·rw [if_pos h,if_pos h]; exact R.fl q q0 h
  ·rw [if_neg h,if_neg h,if_pos om,if_pos om,e2]; simp; omega
 ·by_cases h:q<(l.length:Int)
  ·rw [if_pos h] at j1 ⊢
   rw [if_pos h]
   have:=R.fw q q0 h j j0 j1
   refine ⟨?_,fun hp=>by have:=this.2 hp; simp; omega⟩
   by_cases hp:isPtr (tL xs ys (ix l q)) (tM xs ys (ix l q)) j=true
   ·rw [if_pos hp] at this ⊢
    rw [adr_app (this.2 hp).1 (this.2 hp).2]; exact this.1
   ·rw [if_neg hp] at this ⊢; exact this.1
  ·have h2:q=(l.length:Int):=om
   rw [if_neg h,if_pos h2] at j1 ⊢
   rw [if_neg h,if_pos h2]
   simp only [ix_rep]
   rw [e2] at j1
   refine ⟨?_,fun _=>by simp; omega⟩
   rw [hz j j0 j1]
   split
   ·exact adr_0.symm
   ·rfl
end
set_option linter.unusedVariables false
def fE (W:Int)(xs ys st:List Int)(h i:Int)(pt:Bool):Int :=
 if ¬ (0<=h/\h<(st.length:Int)) then 5 else if ix st h=0 then 6 else if oErr W xs ys (ix st h)≠0\/tT xs ys (ix st h)=255 then 10
 else if ¬ (0<=i/\i<tL xs ys (ix st h)) then 7 else if isPtr (tL xs ys (ix st h)) (tM xs ys (ix st h)) i≠pt then 8 else 0
def gfE (ns:List Nd)(q:List Int)(h i:Int)(pt:Bool):Int :=
 if ¬ (0<=h/\h<(q.length:Int)) then 5 else if ix q h=0 then 6 else if ¬ (0<=i/\i<(ndA ns (ix q h - 1)).l) then 7 else if isPtr (ndA ns (ix q h - 1)).l (ndA ns (ix q h - 1)).m i≠pt then 8 else 0
def nwV (k old v:Int):Int:=if k=6 then nAd old v else if k=7 then nMu old v else v
def newOk (o:OpV):Prop:=headErr o.t o.l o.m=0/\o.t≠255
instance (o:OpV):Decidable (newOk o):=inferInstanceAs (Decidable (_/\_))
inductive Rf (W:Int) (xs ys st:List Int) (o:OpV):Int->Prop
 | kind (h:o.k<1\/11<o.k):Rf W xs ys st o 1
 | scal {e:Int} (hk:o.k=2\/o.k=4\/o.k=6\/o.k=7) (he:fE W xs ys st o.h o.i false=e) (h0:e≠0):Rf W xs ys st o e
 | ptr {e:Int} (hk:o.k=3\/o.k=5) (he:fE W xs ys st o.h o.i true=e) (h0:e≠0):Rf W xs ys st o e
 | full3 (hk:o.k=3) (he:fE W xs ys st o.h o.i true=0) (h:16<=(st.length:Int)):Rf W xs ys st o 4
 | link (hk:o.k=5) (he:fE W xs ys st o.h o.i true=0) (h:¬ (0<=o.j/\o.j<(st.length:Int))):Rf W xs ys st o 5
 | hand (hk:o.k=8\/o.k=9) (h:¬ (0<=o.h/\o.h<(st.length:Int))):Rf W xs ys st o 5
 | same (hk:o.k=8) (h:0<=o.h/\o.h<(st.length:Int)) (h2:¬ (0<=o.j/\o.j<(st.length:Int))):Rf W xs ys st o 5
 | full9 (hk:o.k=9) (h:0<=o.h/\o.h<(st.length:Int)) (h2:16<=(st.length:Int)):Rf W xs ys st o 4
 | pop (hk:o.k=10) (h:(st.length:Int)=0):Rf W xs ys st o 9
 | head (hk:o.k=1) (h:¬ newOk o):Rf W xs ys st o 1
 | full1 (hk:o.k=1) (h:newOk o) (h2:16<=(st.length:Int)):Rf W xs ys st o 4
inductive Stp1 (W:Int) (xs ys st:List Int) (fr:Int->Prop) (o:OpV):List Int->List Int->List Int->Int->Int->Bool->Prop
 | no {e:Int} (h:Rf W xs ys st o e):Stp1 W xs ys st fr o xs ys st e 0 false
 | get (hk:o.k=2) (hf:fE W xs ys st o.h o.i false=0):Stp1 W xs ys st fr o xs ys st 0 (ldw xs ys (ix st o.h + 2 + o.i)) false
 | follow (hk:o.k=3) (hf:fE W xs ys st o.h o.i true=0) (hl:(st.length:Int)<16):Stp1 W xs ys st fr o xs ys (st++[ldw xs ys (ix st o.h + 2 + o.i)]) 0 0 false
 | write {v:Int} (hk:o.k=4\/o.k=6\/o.k=7) (hf:fE W xs ys st o.h o.i false=0) (hv:v=nwV o.k (ldw xs ys (ix st o.h + 2 + o.i)) o.v):Stp1 W xs ys st fr o (stx xs (ix st o.h + 2 + o.i) v) (sty ys (ix st o.h + 2 + o.i) v) st 0 0 false
 | link (hk:o.k=5) (hf:fE W xs ys st o.h o.i true=0) (hj:0<=o.j/\o.j<(st.length:Int)):Stp1 W xs ys st fr o (stx xs (ix st o.h + 2 + o.i) (ix st o.j)) (sty ys (ix st o.h + 2 + o.i) (ix st o.j)) st 0 0 false
 | same (hk:o.k=8) (hh:0<=o.h/\o.h<(st.length:Int)) (hj:0<=o.j/\o.j<(st.length:Int)):Stp1 W xs ys st fr o xs ys st 0 0 (ix st o.h == ix st o.j)
 | push (hk:o.k=9) (hh:0<=o.h/\o.h<(st.length:Int)) (hl:(st.length:Int)<16):Stp1 W xs ys st fr o xs ys (st++[ix st o.h]) 0 0 false
 | pop (hk:o.k=10) (hl:0<(st.length:Int)):Stp1 W xs ys st fr o xs ys (st.take (Int.toNat ((st.length:Int) - 1))) 0 0 false
 | new {X Y:List Int} {a:Int} (hk:o.k=1) (hn:newOk o) (hl:(st.length:Int)<16) (hr:rlB W X Y a=true) (e1:tT X Y a=o.t) (e2:tL X Y a=o.l) (e3:tM X Y a=o.m) (hz:∀ i,0<=i->i<o.l->ldw X Y (a + 2 + i)=0)
   (hf:∀ j,0<=j->j<o.l + 2->fr (a + j)) (hs:∀ b,(1<=b / 4294967296/\b / 4294967296<=2)->¬ fr b->ldw X Y b=ldw xs ys b):Stp1 W xs ys st fr o X Y (st++[a]) 0 0 false
structure GR where
 (ns:List Nd) (ss:List (List Int)) (e v:Int) (y:Bool)
def rowG (ss:List (List Int))(th:Int):List Int:=ss.getD th.toNat []
def gDo (ns:List Nd)(ss:List (List Int))(th:Int)(o:OpV):GR :=
 if o.k<1\/11<o.k then ⟨ns,ss,1,0,false⟩
 else if o.k=1 then (if ¬ newOk o then ⟨ns,ss,1,0,false⟩ else if 16<=((rowG ss th).length:Int) then ⟨ns,ss,4,0,false⟩ else ⟨ns++[⟨o.t,o.l,o.m,List.replicate o.l.toNat 0⟩],ss.set th.toNat (rowG ss th++[(ns.length:Int) + 1]),0,0,false⟩)
 else if o.k=2\/o.k=4\/o.k=6\/o.k=7 then (if gfE ns (rowG ss th) o.h o.i false≠0 then ⟨ns,ss,gfE ns (rowG ss th) o.h o.i false,0,false⟩
  else if o.k=2 then ⟨ns,ss,0,ix (ndA ns (ix (rowG ss th) o.h - 1)).f o.i,false⟩ else ⟨nset ns (ix (rowG ss th) o.h - 1) o.i (nwV o.k (ix (ndA ns (ix (rowG ss th) o.h - 1)).f o.i) o.v),ss,0,0,false⟩)
 else if o.k=3\/o.k=5 then (if gfE ns (rowG ss th) o.h o.i true≠0 then ⟨ns,ss,gfE ns (rowG ss th) o.h o.i true,0,false⟩
  else if o.k=3 then (if 16<=((rowG ss th).length:Int) then ⟨ns,ss,4,0,false⟩ else ⟨ns,ss.set th.toNat (rowG ss th++[ix (ndA ns (ix (rowG ss th) o.h - 1)).f o.i]),0,0,false⟩)
  else (if ¬ (0<=o.j/\o.j<((rowG ss th).length:Int)) then ⟨ns,ss,5,0,false⟩ else ⟨nset ns (ix (rowG ss th) o.h - 1) o.i (ix (rowG ss th) o.j),ss,0,0,false⟩))
 else if o.k=10 then (if ((rowG ss th).length:Int)=0 then ⟨ns,ss,9,0,false⟩ else ⟨ns,ss.set th.toNat ((rowG ss th).take (Int.toNat (((rowG ss th).length:Int) - 1))),0,0,false⟩)
 else if o.k=11 then ⟨ns,ss,0,0,false⟩
 else if ¬ (0<=o.h/\o.h<((rowG ss th).length:Int)) then ⟨ns,ss,5,0,false⟩
 else if o.k=9 then (if 16<=((rowG ss th).length:Int) then ⟨ns,ss,4,0,false⟩ else ⟨ns,ss.set th.toNat (rowG ss th++[ix (rowG ss th) o.h]),0,0,false⟩)
 else if ¬ (0<=o.j/\o.j<((rowG ss th).length:Int)) then ⟨ns,ss,5,0,false⟩
 else ⟨ns,ss,0,0,ix (rowG ss th) o.h == ix (rowG ss th) o.j⟩
section
variable {W:Int} {xs ys l:List Int} {ns:List Nd} {ss:List (List Int)} {th:Int}
theorem row_in (t0:0<=th)(t1:th<(ss.length:Int)):rowG ss th∈ss:=by
 unfold rowG; rw [List.getD_eq_getElem?_getD,List.getElem?_eq_getElem om]; exact List.getElem_mem _
theorem row_A (t0:0<=th)(t1:th<(ss.length:Int)):rowG (rowsA l ss) th=(rowG ss th).map (adr l):=by
 unfold rowG rowsA; rw [List.getD_eq_getElem?_getD,List.getD_eq_getElem?_getD,List.getElem?_map,List.getElem?_eq_getElem om]; rfl
theorem rows_set {q:List Int} : (rowsA l ss).set th.toNat (q.map (adr l))=rowsA l (ss.set th.toNat q):=by unfold rowsA; rw [List.map_set]
theorem rows_id (t0:0<=th)(t1:th<(ss.length:Int)):(rowsA l ss).set th.toNat ((rowG ss th).map (adr l))=rowsA l ss:=by
 rw [rows_set]
 congr 1
 unfold rowG
 rw [List.getD_eq_getElem?_getD,List.getElem?_eq_getElem om]
 simp
theorem h0_row (hs:H0 l.length ss.flatten)(t0:0<=th)(t1:th<(ss.length:Int)):H0 l.length (rowG ss th):=fun x hx=>hs x (List.mem_flatten.2 ⟨_,row_in t0 t1,hx⟩)
theorem h0_set {N:Nat}{q:List Int}(hs:H0 N ss.flatten)(hq:H0 N q):H0 N (ss.set th.toNat q).flatten:=fun x hx=>by
 obtain ⟨r,hr,hxr⟩:=List.mem_flatten.1 hx
 rcases List.mem_or_eq_of_mem_set hr with h | rfl
 ·exact hs x (List.mem_flatten.2 ⟨r,h,hxr⟩)
 ·exact hq x hxr
theorem ix_mapa {q:List Int}{h:Int}(h0:0<=h)(h1:h<(q.length:Int)):ix (q.map (adr l)) h=adr l (ix q h):=ix_map h0 h1
theorem fE_eq (R:Rep W xs ys l ns){q:List Int}(hq:H0 l.length q){h i:Int}{pt:Bool} : fE W xs ys (q.map (adr l)) h i pt=gfE ns q h i pt:=by
 unfold fE gfE
 rw [List.length_map]
 by_cases hh:0<=h/\h<(q.length:Int)
 ·have hh':¬ ¬ (0<=h/\h<(q.length:Int)):=fun hc=>hc hh
  rw [if_neg hh',if_neg hh',ix_mapa hh.1 hh.2]
  have hb:=hq _ (ix_mem (l:=q) hh.1 hh.2)
  by_cases h0:ix q h=0
  ·rw [h0,adr_0,if_pos rfl,if_pos rfl]
  ·have hm:=adr_mem (l:=l) (h:=ix q h) om hb.2
   rw [if_neg (R.nz hm),if_neg h0]
   have hr:=R.rl _ hm
   rw [if_neg (fun hc=>hc.elim (fun k=>k (rl_oe hr)) (fun k=>(of_decide_eq_true hr).2 k))]
   obtain ⟨e1,e2,e3⟩:=R.hd (ix q h - 1) om om
   rw [adr_1 om,<- e2,<- e3]
 ·rw [if_pos hh,if_pos hh]
theorem gfE_0 {q:List Int}{h i:Int}{pt:Bool}(e:gfE ns q h i pt=0):(0<=h/\h<(q.length:Int))/\ix q h≠0/\(0<=i/\i<(ndA ns (ix q h - 1)).l)/\isPtr (ndA ns (ix q h - 1)).l (ndA ns (ix q h - 1)).m i=pt:=by
 unfold gfE at e
 split at e
 ·omega
 ·split at e
  ·omega
  ·split at e
   ·omega
   ·split at e
    ·omega
    ·rename_i h1 h2 h3 h4
     exact ⟨Decidable.not_not.1 h1,h2,Decidable.not_not.1 h3,Decidable.not_not.1 h4⟩
theorem step_graph (R:Rep W xs ys l ns)(D:Dj xs ys l)(hx:(xs.length:Int)=W)(hy:(ys.length:Int)=W)(hW:16<=W/\W<=4096)(hs:H0 l.length ss.flatten)(t0:0<=th)(t1:th<(ss.length:Int)){fr:Int->Prop}
  (hfr:∀ a∈l,∀ j,0<=j->j<tL xs ys a + 2->¬ fr (a + j)) {o:OpV} {X Y st1:List Int} {e v:Int} {y:Bool} (S:Stp1 W xs ys ((rowG ss th).map (adr l)) fr o X Y st1 e v y) (hX:(X.length:Int)=W) (hY:(Y.length:Int)=W) :
  ∃ l',Rep W X Y l' (gDo ns ss th o).ns/\(rowsA l ss).set th.toNat st1=rowsA l' (gDo ns ss th o).ss/\H0 l'.length (gDo ns ss th o).ss.flatten/\e=(gDo ns ss th o).e/\v=(gDo ns ss th o).v/\y=(gDo ns ss th o).y:=by
 have hq:=h0_row hs t0 t1 (l:=l)
 generalize hqd:rowG ss th=q at *
 have hid:(rowsA l ss).set th.toNat (q.map (adr l))=rowsA l ss:=by rw [<- hqd]; exact rows_id t0 t1
 have fld:∀ {pt:Bool},fE W xs ys (q.map (adr l)) o.h o.i pt=0->gfE ns q o.h o.i pt=0/\(0<=o.h/\o.h<(q.length:Int))/\(1<=ix q o.h/\ix q o.h<=(l.length:Int))/\ix (q.map (adr l)) o.h=ix l (ix q o.h - 1)/\(0<=o.i/\o.i<tL xs ys (ix l (ix q o.h - 1)))/\isPtr (tL xs ys (ix l (ix q o.h - 1))) (tM xs ys (ix l (ix q o.h - 1))) o.i=pt:=fun {pt} h=>by
  rw [fE_eq R hq] at h
  obtain ⟨h1,h2,h3,h4⟩:=gfE_0 h
  have hb:=hq _ (ix_mem (l:=q) h1.1 h1.2)
  obtain ⟨e1,e2,e3⟩:=R.hd (ix q o.h - 1) om om
  rw [e2] at h3 h4
  rw [e3] at h4
  exact ⟨h,h1,om,by rw [ix_mapa h1.1 h1.2,adr_1 om],h3,h4⟩
 have err:∀ {c:Int},gDo ns ss th o=⟨ns,ss,c,0,false⟩->e=c->v=0->y=false->X=xs->Y=ys->st1=q.map (adr l)->∃ l',Rep W X Y l' (gDo ns ss th o).ns/\(rowsA l ss).set th.toNat st1=rowsA l' (gDo ns ss th o).ss/\H0 l'.length (gDo ns ss th o).ss.flatten/\e=(gDo ns ss th o).e/\v=(gDo ns ss th o).v/\y=(gDo ns ss th o).y:=fun {c} hg h1 h2 h3 h4 h5 h6=>by
  subst h1 h2 h3 h4 h5 h6
  rw [hg]
  exact ⟨l,R,hid,hs,rfl,rfl,rfl⟩
 cases S with
 | no h =>
  refine err ?_ rfl rfl rfl rfl rfl rfl
  unfold gDo
  rw [hqd]
  cases h with
  | kind h=>rw [if_pos h]
  | scal hk he h0=>rw [fE_eq R hq] at he; subst he; rw [if_neg om,if_neg om,if_pos hk,if_pos h0]
  | ptr hk he h0=>rw [fE_eq R hq] at he; subst he; rw [if_neg om,if_neg om,if_neg om,if_pos hk,if_pos h0]
  | full3 hk he h=>rw [List.length_map] at h; rw [if_neg om,if_neg om,if_neg om,if_pos (.inl hk),if_neg (fun hc=>hc (fld he).1),if_pos hk,if_pos h]
  | link hk he h=>rw [List.length_map] at h; rw [if_neg om,if_neg om,if_neg om,if_pos (.inr hk),if_neg (fun hc=>hc (fld he).1),if_neg om,if_pos h]
  | hand hk h=>rw [List.length_map] at h; rw [if_neg om,if_neg om,if_neg om,if_neg om,if_neg om,if_neg om,if_pos h]
  | same hk h h2=>rw [List.length_map] at h h2; rw [if_neg om,if_neg om,if_neg om,if_neg om,if_neg om,if_neg om,if_neg (fun hc=>hc h),if_neg om,if_pos h2]
  | full9 hk h h2=>rw [List.length_map] at h h2; rw [if_neg om,if_neg om,if_neg om,if_neg om,if_neg om,if_neg om,if_neg (fun hc=>hc h),if_pos hk,if_pos h2]
  | pop hk h=>rw [List.length_map] at h; rw [if_neg om,if_neg om,if_neg om,if_neg om,if_pos hk,if_pos h]
  | head hk h=>rw [if_neg om,if_pos hk,if_pos h]
  | full1 hk h h2=>rw [List.length_map] at h2; rw [if_neg om,if_pos hk,if_neg (fun hc=>hc h),if_pos h2]
 | get hk hf =>
  obtain ⟨g,hh,hb,ea,hi,hp⟩:=fld hf
  have hw:=(R.fw (ix q o.h - 1) om om o.i hi.1 hi.2).1
  rw [if_neg (by rw [hp]; decide)] at hw
  have hg:gDo ns ss th o=⟨ns,ss,0,ix (ndA ns (ix q o.h - 1)).f o.i,false⟩:=by
   unfold gDo; rw [hqd,if_neg om,if_neg om,if_pos (.inl hk),if_neg (fun hc=>hc g),if_pos hk]
  rw [hg]
  exact ⟨l,R,hid,hs,rfl,by rw [ea,hw],rfl⟩
 | follow hk hf hl =>
  obtain ⟨g,hh,hb,ea,hi,hp⟩:=fld hf
  obtain ⟨hw,hu⟩:=R.fw (ix q o.h - 1) om om o.i hi.1 hi.2
  rw [if_pos hp] at hw
  rw [List.length_map] at hl
  have hg:gDo ns ss th o=⟨ns,ss.set th.toNat (q++[ix (ndA ns (ix q o.h - 1)).f o.i]),0,0,false⟩:=by
   unfold gDo; rw [hqd,if_neg om,if_neg om,if_neg om,if_pos (.inl hk),if_neg (fun hc=>hc g),if_pos hk,if_neg om]
  rw [hg]
  refine ⟨l,R,?_,h0_set hs (fun x hx=>(List.mem_append.1 hx).elim (hq x) (fun hx=>by rw [List.mem_singleton.1 hx]; exact hu hp)),rfl,rfl,rfl⟩
  rw [ea,hw,<- rows_set]; simp
 | write hk hf hv =>
  obtain ⟨g,hh,hb,ea,hi,hp⟩:=fld hf
  have hw:=(R.fw (ix q o.h - 1) om om o.i hi.1 hi.2).1
  have hn:¬ (isPtr (tL xs ys (ix l (ix q o.h - 1))) (tM xs ys (ix l (ix q o.h - 1))) o.i=true):=by rw [hp]; decide
  rw [if_neg hn] at hw
  have hg:gDo ns ss th o=⟨nset ns (ix q o.h - 1) o.i (nwV o.k (ix (ndA ns (ix q o.h - 1)).f o.i) o.v),ss,0,0,false⟩:=by
   unfold gDo; rw [hqd,if_neg om,if_neg om,if_pos om,if_neg (fun hc=>hc g),if_neg om]
  rw [hg]
  rw [ea,hw] at hv
  rw [ea]
  exact ⟨l,R.set D hx hy hW.2 om om hi.1 hi.2 (by rw [if_neg hn]; exact hv) (fun hc=>absurd hc hn),hid,hs,rfl,rfl,rfl⟩
 | link hk hf hj =>
  obtain ⟨g,hh,hb,ea,hi,hp⟩:=fld hf
  rw [List.length_map] at hj
  have hg:gDo ns ss th o=⟨nset ns (ix q o.h - 1) o.i (ix q o.j),ss,0,0,false⟩:=by
   unfold gDo; rw [hqd,if_neg om,if_neg om,if_neg om,if_pos (.inr hk),if_neg (fun hc=>hc g),if_neg om,if_neg (fun hc=>hc hj)]
  rw [hg,ea]
  have hu:=hq _ (ix_mem (l:=q) hj.1 hj.2)
  exact ⟨l,R.set D hx hy hW.2 om om hi.1 hi.2 (by rw [if_pos hp,ix_mapa hj.1 hj.2]) (fun _=>hu),hid,hs,rfl,rfl,rfl⟩
 | same hk hh hj =>
  rw [List.length_map] at hh hj
  have hg:gDo ns ss th o=⟨ns,ss,0,0,ix q o.h == ix q o.j⟩:=by
   unfold gDo; rw [hqd,if_neg om,if_neg om,if_neg om,if_neg om,if_neg om,if_neg om,if_neg (fun hc=>hc hh),if_neg om,if_neg (fun hc=>hc hj)]
  rw [hg,ix_mapa hh.1 hh.2,ix_mapa hj.1 hj.2]
  refine ⟨l,R,hid,hs,rfl,rfl,?_⟩
  have b1:=hq _ (ix_mem (l:=q) hh.1 hh.2)
  have b2:=hq _ (ix_mem (l:=q) hj.1 hj.2)
  rw [Bool.eq_iff_iff]
  simp only [beq_iff_eq]
  refine ⟨fun he=>?_,fun he=>by rw [he]⟩
  by_cases z1:ix q o.h=0
  ·rw [z1,adr_0] at he
   by_cases z2:ix q o.j=0
   ·rw [z1,z2]
   ·exact absurd he.symm (R.nz (adr_mem om b2.2))
  ·by_cases z2:ix q o.j=0
   ·rw [z2,adr_0] at he
    exact absurd he (R.nz (adr_mem om b1.2))
   ·exact adr_inj R.nd om b1.2 om b2.2 he
 | push hk hh hl =>
  rw [List.length_map] at hh hl
  have hg:gDo ns ss th o=⟨ns,ss.set th.toNat (q++[ix q o.h]),0,0,false⟩:=by
   unfold gDo; rw [hqd,if_neg om,if_neg om,if_neg om,if_neg om,if_neg om,if_neg om,if_neg (fun hc=>hc hh),if_pos hk,if_neg om]
  rw [hg]
  refine ⟨l,R,?_,h0_set hs (fun x hx=>(List.mem_append.1 hx).elim (hq x) (fun hx=>by rw [List.mem_singleton.1 hx]; exact hq _ (ix_mem hh.1 hh.2))),rfl,rfl,rfl⟩
  rw [ix_mapa hh.1 hh.2,<- rows_set]; simp
 | pop hk hl =>
  rw [List.length_map] at hl
  have hg:gDo ns ss th o=⟨ns,ss.set th.toNat (q.take (Int.toNat ((q.length:Int) - 1))),0,0,false⟩:=by
   unfold gDo; rw [hqd,if_neg om,if_neg om,if_neg om,if_neg om,if_pos hk,if_neg om]
  rw [hg]
  refine ⟨l,R,?_,h0_set hs (fun x hx=>hq x (List.mem_of_mem_take hx)),rfl,rfl,rfl⟩
  rw [List.length_map,<- rows_set,List.map_take]
 | @new _ _ a hk hn hl hr e1 e2 e3 hz hf hsame =>
  rw [List.length_map] at hl
  have hg:gDo ns ss th o=⟨ns++[⟨o.t,o.l,o.m,List.replicate o.l.toNat 0⟩],ss.set th.toNat (q++[(ns.length:Int) + 1]),0,0,false⟩:=by
   unfold gDo; rw [hqd,if_neg om,if_pos hk,if_neg (fun hc=>hc hn),if_neg om]
  rw [hg]
  have hlen:=R.len
  have hL:0<=o.l:=by rw [<- e2]; exact tL_nn
  have ha:a∉l:=fun hm=>hfr a hm 0 om (by have:=tL_nn (xs:=xs) (ys:=ys) (a:=a); omega) (hf 0 om om)
  have R2:Rep W X Y l ns:=R.same (fun b hb j j0 j1=>by
   obtain ⟨s1,s2,s3⟩:=rl_at (R.rl b hb)
   exact hsame _ om (hfr b hb j j0 j1))
  refine ⟨l++[a],R2.add ha hr e1 e2 e3 hz,?_,?_,rfl,rfl,rfl⟩
  ·have hA:∀ x∈ss.flatten,adr (l++[a]) x=adr l x:=fun x hx=>adr_app (hs x hx).1 (hs x hx).2
   have e4:rowsA (l++[a]) ss=rowsA l ss:=by
    unfold rowsA
    exact List.map_congr_left fun r hr=>List.map_congr_left fun x hx=>hA x (List.mem_flatten.2 ⟨r,hr,hx⟩)
   have e5:q.map (adr (l++[a]))=q.map (adr l):=List.map_congr_left fun x hx=>adr_app (hq x hx).1 (hq x hx).2
   have e6:adr (l++[a]) ((ns.length:Int) + 1)=a:=by
    rw [adr_1 om,show (ns.length:Int) + 1 - 1=(ns.length:Int) by omega,hlen,ix_app om,if_neg om,if_pos rfl]
   rw [<- rows_set,e4,List.map_append,e5]
   simp only [List.map_cons,List.map_nil,e6]
  ·refine h0_set (fun x hx=>by have:=hs x hx; simp; omega) (fun x hx=>?_)
   rcases List.mem_append.1 hx with hx | hx
   ·have:=hq x hx; simp; omega
   ·rw [List.mem_singleton.1 hx]; simp; omega
end
end Go.Proofs.YtmmfpkkamgapkaaGreat.X
