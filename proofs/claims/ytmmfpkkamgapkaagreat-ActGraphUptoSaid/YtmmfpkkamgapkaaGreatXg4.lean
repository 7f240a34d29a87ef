/- Nodes and rows of rows as symbolic values; what the document's loops over them come to. No program in sight. -/
import Derived.Test.YtmmfpkkamgapkaaGreatXg2
import Derived.Test.YtmmfpkkamgapkaaGreatXu6
namespace Go.Proofs.YtmmfpkkamgapkaaGreat.X
open Go Go.RowKit
set_option linter.unusedVariables false
def nodeS (n:Nd):SV:=.agg [.int .i64 n.t,.int .i64 n.l,.int .u64 n.m,.sl false 1 (n.f.map (SV.int .u64))]
def rowI (r:List Int):SV:=.sl false 1 (r.map (SV.int .i64))
def rowU (r:List Int):SV:=.sl false 1 (r.map (SV.int .u64))
def NdOk (n:Nd):Prop:=(-9223372036854775808<=n.t/\n.t<=9223372036854775807)/\(-9223372036854775808<=n.l/\n.l<=9223372036854775807)/\(0<=n.m/\n.m<=18446744073709551615)/\U64s n.f/\(n.f.length:Int) * 8<=140737488355000
def Nds (ns:List Nd):Prop:=∀ n∈ns,NdOk n
def RIs (rs:List (List Int)):Prop:=∀ r∈rs,I64s r/\(r.length:Int) * 8<=140737488355000
def RUs (rs:List (List Int)):Prop:=∀ r∈rs,U64s r/\(r.length:Int) * 8<=140737488355000
theorem elem_nd {xs:List Nd} : ∀ y∈xs.map nodeS,ElemOk y:=by
 intro y hy
 obtain ⟨n,_,rfl⟩:=List.mem_map.1 hy
 rfl
theorem elem_ri {xs:List (List Int)} : ∀ y∈xs.map rowI,ElemOk y:=by
 intro y hy
 obtain ⟨n,_,rfl⟩:=List.mem_map.1 hy
 rfl
theorem elem_ru {xs:List (List Int)} : ∀ y∈xs.map rowU,ElemOk y:=by
 intro y hy
 obtain ⟨n,_,rfl⟩:=List.mem_map.1 hy
 rfl
theorem ix_nd_ {xs:List Nd}{n:Int}(h0:0<=n)(h1:n<(xs.length:Int)):0<=n/\n<((xs.map nodeS).length:Int)/\(xs.map nodeS)[n.toNat]? = some (nodeS (ndA xs n)):=ix_any h0 h1
theorem ix_ri {xs:List (List Int)}{n:Int}(h0:0<=n)(h1:n<(xs.length:Int)):0<=n/\n<((xs.map rowI).length:Int)/\(xs.map rowI)[n.toNat]? = some (rowI (rowG xs n)):=ix_any h0 h1
theorem ix_ru {xs:List (List Int)}{n:Int}(h0:0<=n)(h1:n<(xs.length:Int)):0<=n/\n<((xs.map rowU).length:Int)/\(xs.map rowU)[n.toNat]? = some (rowU (rowG xs n)):=ix_any h0 h1
theorem Nds.at {xs:List Nd}(h:Nds xs)(n:Int):NdOk (ndA xs n):=getD_in h (by unfold NdOk; simp [U64s]) _
theorem RIs.at {xs:List (List Int)}(h:RIs xs)(n:Int):I64s (rowG xs n)/\((rowG xs n).length:Int) * 8<=140737488355000:=getD_in (Q:=fun r:List Int=>I64s r/\(r.length:Int) * 8<=140737488355000) h (by simp [I64s]) _
theorem RUs.at {xs:List (List Int)}(h:RUs xs)(n:Int):U64s (rowG xs n)/\((rowG xs n).length:Int) * 8<=140737488355000:=getD_in (Q:=fun r:List Int=>U64s r/\(r.length:Int) * 8<=140737488355000) h (by simp [U64s]) _
def thR (ts:List Th)(i:Int):List (List Int):=(ts.take i.toNat).map Th.st
def jnR (rs:List (List Int))(i:Int):List Int:=(rs.take i.toNat).flatten
section
variable {ts:List Th} {rs:List (List Int)} {l:List Int} {i a:Int}
theorem thR_next (h0:0<=i)(h:i<(ts.length:Int)):thR ts i++[Th.st (thA ts i)]=thR ts (i + 1):=by
 unfold thR; rw [take_nextT h0 h,List.map_append]; rfl
theorem thR_end (h:(ts.length:Int)<=i):thR ts i=ts.map Th.st:=by unfold thR; rw [List.take_of_length_le om]
theorem thR_len:((thR ts i).length:Int)<=(ts.length:Int):=by unfold thR; simp; omega
theorem take_nextR (h0:0<=i)(h:i<(rs.length:Int)):rs.take (Int.toNat (i + 1))=rs.take (Int.toNat i)++[rowG rs i]:=by
 have h3:i.toNat<rs.length:=om
 rw [show (i + 1).toNat=i.toNat + 1 by omega,List.take_add_one,List.getElem?_eq_getElem h3]
 unfold rowG
 rw [List.getD_eq_getElem?_getD,List.getElem?_eq_getElem h3]; rfl
theorem jnR_next (h0:0<=i)(h:i<(rs.length:Int)):jnR rs i++rowG rs i=jnR rs (i + 1):=by
 unfold jnR; rw [take_nextR h0 h,List.flatten_append]; simp
theorem jnR_end (h:(rs.length:Int)<=i):jnR rs i=rs.flatten:=by unfold jnR; rw [List.take_of_length_le om]
theorem jnR_u64 (h:RUs rs):U64s (jnR rs i):=fun x hx=>by
 obtain ⟨r,hr,hxr⟩:=List.mem_flatten.1 hx
 exact (h r (List.mem_of_mem_take hr)).1 x hxr
theorem idx_at (h0:0<=i)(h:i<(l.length:Int))(hn:hasB (l.take (Int.toNat i)) a=false)(he:ix l i=a):a∈l/\(l.idxOf a:Int)=i:=by
 have h3:i.toNat<l.length:=om
 have hn:=of_decide_eq_false hn
 have e:l=l.take i.toNat++(ix l i :: l.drop (i.toNat + 1)):=by
  have:ix l i=l[i.toNat]:=by unfold ix; rw [List.getD_eq_getElem?_getD,List.getElem?_eq_getElem h3]; rfl
  rw [this,<- List.drop_eq_getElem_cons h3,List.take_append_drop]
 refine ⟨by rw [<- he]; exact ix_mem h0 h,?_⟩
 rw [e,List.idxOf_append,if_neg hn,he,List.idxOf_cons_self]
 simp; omega
theorem plc_at (hz:a≠0)(h0:0<=i)(h:i<(l.length:Int))(hn:hasB (l.take (Int.toNat i)) a=false)(he:ix l i=a):i + 1=plc l a:=by
 obtain ⟨h1,h2⟩:=idx_at h0 h hn he
 unfold plc; rw [if_neg hz,if_pos h1,h2]
theorem plc_no (hz:a≠0)(h:(l.length:Int)<=i)(hn:hasB (l.take (Int.toNat i)) a=false):(-1:Int)=plc l a:=by
 rw [List.take_of_length_le om] at hn
 unfold plc; rw [if_neg hz,if_neg (of_decide_eq_false hn)]
theorem plc_0:(0:Int)=plc l 0:=(if_pos rfl).symm
def pi0 (o:List Int)(h:Int):Int:=pic o h - 1
theorem pi0_at (h0:0<=i)(h:i<(l.length:Int))(hn:hasB (l.take (Int.toNat i)) a=false)(he:ix l i=a):i=pi0 l a:=by
 obtain ⟨h1,h2⟩:=idx_at h0 h hn he
 unfold pi0 pic; rw [if_pos h1,h2]; omega
theorem pi0_no (h:(l.length:Int)<=i)(hn:hasB (l.take (Int.toNat i)) a=false):(-1:Int)=pi0 l a:=by
 rw [List.take_of_length_le om] at hn
 unfold pi0 pic; rw [if_neg (of_decide_eq_false hn)]; rfl
theorem plc_le : -1<=plc l a/\plc l a<=(l.length:Int):=by
 unfold plc
 split
 ·omega
 ·split
  ·rename_i h
   have:=List.idxOf_lt_length_of_mem h
   omega
  ·omega
theorem pi0_le : -1<=pi0 l a/\pi0 l a<(l.length:Int)\/(l.length:Int)=0/\pi0 l a = -1:=by
 unfold pi0 pic
 split
 ·rename_i h
  have:=List.idxOf_lt_length_of_mem h
  omega
 ·omega
theorem jnR_len:((jnR rs i).length:Int)<=(rs.flatten.length:Int):=by
 have h:rs.flatten=jnR rs i++(rs.drop i.toNat).flatten:=by unfold jnR; rw [<- List.flatten_append,List.take_append_drop]
 rw [h]; simp; omega
theorem jnR_len2 (h0:0<=i):(rs.length:Int)<=i\/((jnR rs i).length:Int) + ((rowG rs i).length:Int)<=(rs.flatten.length:Int):=by
 by_cases h:i<(rs.length:Int)
 ·have e:=congrArg List.length (jnR_next h0 h)
  have:=jnR_len (rs:=rs) (i:=i + 1)
  rw [List.length_append] at e
  exact .inr om
 ·exact .inl om
theorem pi0_b (h:(l.length:Int)<=1000000) : -1<=pi0 l a/\pi0 l a<=1000000:=by have:=pi0_le (l:=l) (a:=a); omega
end
section
theorem takeG_next {ss:List (List Int)}{i:Int}(h0:0<=i)(h:i<(ss.length:Int)):ss.take (Int.toNat i)++[rowG ss i]=ss.take (Int.toNat (i + 1)):=(take_nextR h0 h).symm
end
theorem nset_S {ns:List Nd}{n i v:Int} : (ns.map nodeS).set n.toNat (nodeS ⟨(ndA ns n).t,(ndA ns n).l,(ndA ns n).m,(ndA ns n).f.set i.toNat v⟩)=(nset ns n i v).map nodeS:=by unfold nset; rw [List.map_set]
def GOk (ns:List Nd)(ss:List (List Int)):Prop:=H0 ns.length ss.flatten/\∀ k,0<=k->k<(ns.length:Int)->(((ndA ns k).f.length:Int)=(ndA ns k).l/\0<=(ndA ns k).l/\(ndA ns k).l<=16)/\∀ p∈gpt (ndA ns k),0<=p/\p<=(ns.length:Int)
theorem Rep.gok {W:Int}{xs ys l:List Int}{ns:List Nd}{ss:List (List Int)}(R:Rep W xs ys l ns)(hs:H0 l.length ss.flatten):GOk ns ss:=by
 have hlen:=R.len
 refine ⟨by rw [hlen]; exact hs,fun k k0 k1=>?_⟩
 have hm:=ix_mem (l:=l) (k:=k) k0 om
 obtain ⟨_,e2,_⟩:=R.hd k k0 om
 have h1:=R.fl k k0 om
 have h2:=rl_at (R.rl _ hm)
 have h3:=(R.pt k0 om).2
 rw [hlen]
 exact ⟨⟨by rw [e2]; exact h1,by rw [e2]; exact tL_nn,by rw [e2]; exact h2.2.2⟩,h3⟩
section
variable {ns:List Nd} {ss:List (List Int)} {q:List Int} {th h i:Int} {pt:Bool}
theorem GOk.hd (G:GOk ns ss)(t0:0<=th)(t1:th<(ss.length:Int))(h0:0<=h)(h1:h<((rowG ss th).length:Int)):0<=ix (rowG ss th) h/\ix (rowG ss th) h<=(ns.length:Int):=G.1 _ (List.mem_flatten.2 ⟨_,row_in t0 t1,ix_mem h0 h1⟩)
theorem GOk.nd (G:GOk ns ss){k:Int}(k0:0<=k)(k1:k<(ns.length:Int)):((ndA ns k).f.length:Int)=(ndA ns k).l/\0<=(ndA ns k).l/\(ndA ns k).l<=16:=(G.2 k k0 k1).1
theorem gf5 (h0:¬ (0<=h/\h<(q.length:Int)):=by omega):gfE ns q h i pt=5:=by unfold gfE; rw [if_pos h0]
theorem gf6 (h0:0<=h/\h<(q.length:Int):=by omega)(h1:ix q h=0:=by omega):gfE ns q h i pt=6:=by unfold gfE; rw [if_neg (fun hc=>hc h0),if_pos h1]
theorem gf7 (h0:0<=h/\h<(q.length:Int):=by omega)(h1:ix q h≠0:=by omega)(h2:¬ (0<=i/\i<(ndA ns (ix q h - 1)).l):=by omega):gfE ns q h i pt=7:=by unfold gfE; rw [if_neg (fun hc=>hc h0),if_neg h1,if_pos h2]
theorem gf8 (h0:0<=h/\h<(q.length:Int):=by omega)(h1:ix q h≠0:=by omega)(h2:0<=i/\i<(ndA ns (ix q h - 1)).l:=by omega)(h3:isPtr (ndA ns (ix q h - 1)).l (ndA ns (ix q h - 1)).m i≠pt:=by simp_all):gfE ns q h i pt=8:=by unfold gfE; rw [if_neg (fun hc=>hc h0),if_neg h1,if_neg (fun hc=>hc h2),if_pos h3]
theorem gn5 (h0:¬ (0<=h/\h<(q.length:Int)):=by omega):gfE ns q h i pt≠0:=by rw [gf5 h0]; decide
theorem gn6 (h0:0<=h/\h<(q.length:Int):=by omega)(h1:ix q h=0:=by omega):gfE ns q h i pt≠0:=by rw [gf6 h0 h1]; decide
theorem gn7 (h0:0<=h/\h<(q.length:Int):=by omega)(h1:ix q h≠0:=by omega)(h2:¬ (0<=i/\i<(ndA ns (ix q h - 1)).l):=by omega):gfE ns q h i pt≠0:=by rw [gf7 h0 h1 h2]; decide
theorem gn8 (h0:0<=h/\h<(q.length:Int):=by omega)(h1:ix q h≠0:=by omega)(h2:0<=i/\i<(ndA ns (ix q h - 1)).l:=by omega)(h3:isPtr (ndA ns (ix q h - 1)).l (ndA ns (ix q h - 1)).m i≠pt:=by simp_all):gfE ns q h i pt≠0:=by rw [gf8 h0 h1 h2 h3]; decide
theorem gf0 (h0:0<=h/\h<(q.length:Int):=by omega)(h1:ix q h≠0:=by omega)(h2:0<=i/\i<(ndA ns (ix q h - 1)).l:=by omega)(h3:isPtr (ndA ns (ix q h - 1)).l (ndA ns (ix q h - 1)).m i=pt:=by simp_all):gfE ns q h i pt=0:=by unfold gfE; rw [if_neg (fun hc=>hc h0),if_neg h1,if_neg (fun hc=>hc h2),if_neg (fun hc=>hc h3)]
end
end Go.Proofs.YtmmfpkkamgapkaaGreat.X
