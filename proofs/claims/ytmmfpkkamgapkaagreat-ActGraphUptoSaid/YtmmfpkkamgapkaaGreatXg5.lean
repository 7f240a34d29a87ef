/- The graph's step,way by way. No program in sight. -/
import Derived.Test.YtmmfpkkamgapkaaGreatXg4
namespace Go.Proofs.YtmmfpkkamgapkaaGreat.X
open Go Go.RowKit
set_option linter.unusedVariables false
abbrev gT (D:GR):SV:=.tup [.agg [.sl false 4 (D.ns.map nodeS),.sl false 1 (D.ss.map rowI)],.agg [.int .i64 D.e,.int .u64 D.v,.bool D.y]]
theorem gl {D D':GR}(h:D=D'):gT D'=gT D:=by rw [h]
section
variable {ns:List Nd} {ss:List (List Int)} {th k h i j v t f m:Int}
theorem gd_arg (hk:k<1\/11<k:=by omega):gDo ns ss th (OpV.mk k h i j v t f m)=⟨ns,ss,1,0,false⟩:=by unfold gDo; rw [if_pos hk]
theorem gd_head (hk:k=1)(hn:headErr t f m≠0\/t=255):gDo ns ss th (OpV.mk k h i j v t f m)=⟨ns,ss,1,0,false⟩:=by
 subst hk; rcases hn with hn | hn <;> simp [gDo,newOk,hn]
theorem gd_full1 (hk:k=1)(hn:headErr t f m=0)(ht:t≠255)(hf:16<=((rowG ss th).length:Int)):gDo ns ss th (OpV.mk k h i j v t f m)=⟨ns,ss,4,0,false⟩:=by
 subst hk; simp [gDo,newOk,hn,ht,hf]
theorem gd_new (hk:k=1)(hn:headErr t f m=0)(ht:t≠255)(hf:((rowG ss th).length:Int)<16):gDo ns ss th (OpV.mk k h i j v t f m)=⟨ns++[⟨t,f,m,List.replicate f.toNat 0⟩],ss.set th.toNat ((rowG ss th)++[(ns.length:Int) + 1]),0,0,false⟩:=by
 subst hk; have hf:¬ 16<=((rowG ss th).length:Int):=om
 simp [gDo,newOk,hn,ht,hf]
theorem gd_fld (hk:k=2\/k=4\/k=6\/k=7)(hf:gfE ns (rowG ss th) h i false≠0):gDo ns ss th (OpV.mk k h i j v t f m)=⟨ns,ss,gfE ns (rowG ss th) h i false,0,false⟩:=by
 rcases hk with hk | hk | hk | hk <;> subst hk <;> simp [gDo,hf]
theorem gd_get (hk:k=2)(hf:gfE ns (rowG ss th) h i false=0):gDo ns ss th (OpV.mk k h i j v t f m)=⟨ns,ss,0,ix (ndA ns (ix (rowG ss th) h - 1)).f i,false⟩:=by
 subst hk; simp [gDo,hf]
theorem gd_put (hk:k=4)(hf:gfE ns (rowG ss th) h i false=0):gDo ns ss th (OpV.mk k h i j v t f m)=⟨nset ns (ix (rowG ss th) h - 1) i v,ss,0,0,false⟩:=by
 subst hk; simp [gDo,hf,nwV]
theorem gd_add (hk:k=6)(hf:gfE ns (rowG ss th) h i false=0):gDo ns ss th (OpV.mk k h i j v t f m)=⟨nset ns (ix (rowG ss th) h - 1) i (nAd (ix (ndA ns (ix (rowG ss th) h - 1)).f i) v),ss,0,0,false⟩:=by
 subst hk; simp [gDo,hf,nwV]
theorem gd_mul (hk:k=7)(hf:gfE ns (rowG ss th) h i false=0):gDo ns ss th (OpV.mk k h i j v t f m)=⟨nset ns (ix (rowG ss th) h - 1) i (nMu (ix (ndA ns (ix (rowG ss th) h - 1)).f i) v),ss,0,0,false⟩:=by
 subst hk; simp [gDo,hf,nwV]
theorem gd_ptr (hk:k=3\/k=5)(hf:gfE ns (rowG ss th) h i true≠0):gDo ns ss th (OpV.mk k h i j v t f m)=⟨ns,ss,gfE ns (rowG ss th) h i true,0,false⟩:=by
 rcases hk with hk | hk <;> subst hk <;> simp [gDo,hf]
theorem gd_full3 (hk:k=3)(hf:gfE ns (rowG ss th) h i true=0)(hl:16<=((rowG ss th).length:Int)):gDo ns ss th (OpV.mk k h i j v t f m)=⟨ns,ss,4,0,false⟩:=by
 subst hk; simp [gDo,hf,hl]
theorem gd_follow (hk:k=3)(hf:gfE ns (rowG ss th) h i true=0)(hl:((rowG ss th).length:Int)<16):gDo ns ss th (OpV.mk k h i j v t f m)=⟨ns,ss.set th.toNat ((rowG ss th)++[ix (ndA ns (ix (rowG ss th) h - 1)).f i]),0,0,false⟩:=by
 subst hk; have hl:¬ 16<=((rowG ss th).length:Int):=om
 simp [gDo,hf,hl]
theorem gd_link5 (hk:k=5)(hf:gfE ns (rowG ss th) h i true=0)(hj:¬ (0<=j/\j<((rowG ss th).length:Int))):gDo ns ss th (OpV.mk k h i j v t f m)=⟨ns,ss,5,0,false⟩:=by
 subst hk; simp only [gDo]; simp [hf]; omega
theorem gd_link (hk:k=5)(hf:gfE ns (rowG ss th) h i true=0)(hj:0<=j/\j<((rowG ss th).length:Int)):gDo ns ss th (OpV.mk k h i j v t f m)=⟨nset ns (ix (rowG ss th) h - 1) i (ix (rowG ss th) j),ss,0,0,false⟩:=by
 subst hk; simp [gDo,hf,hj]
theorem gd_empty (hk:k=10)(hl:((rowG ss th).length:Int)=0):gDo ns ss th (OpV.mk k h i j v t f m)=⟨ns,ss,9,0,false⟩:=by
 subst hk; simp only [gDo]; simp [hl]
theorem gd_pop (hk:k=10)(hl:((rowG ss th).length:Int)≠0):gDo ns ss th (OpV.mk k h i j v t f m)=⟨ns,ss.set th.toNat ((rowG ss th).take (Int.toNat (((rowG ss th).length:Int) - 1))),0,0,false⟩:=by
 subst hk; simp only [gDo]; rw [if_neg om,if_neg om,if_neg om,if_neg om,if_pos trivial,if_neg hl]
theorem gd_unit (hk:k=11):gDo ns ss th (OpV.mk k h i j v t f m)=⟨ns,ss,0,0,false⟩:=by subst hk; simp [gDo]
theorem gd_hand (hk:k=8\/k=9)(hh:¬ (0<=h/\h<((rowG ss th).length:Int))):gDo ns ss th (OpV.mk k h i j v t f m)=⟨ns,ss,5,0,false⟩:=by
 simp only [gDo]; rw [if_neg om,if_neg om,if_neg om,if_neg om,if_neg om,if_neg om,if_pos hh]
theorem gd_full9 (hk:k=9)(hh:0<=h/\h<((rowG ss th).length:Int))(hl:16<=((rowG ss th).length:Int)):gDo ns ss th (OpV.mk k h i j v t f m)=⟨ns,ss,4,0,false⟩:=by
 subst hk; simp [gDo,hh,hl]
theorem gd_push (hk:k=9)(hh:0<=h/\h<((rowG ss th).length:Int))(hl:((rowG ss th).length:Int)<16):gDo ns ss th (OpV.mk k h i j v t f m)=⟨ns,ss.set th.toNat ((rowG ss th)++[ix (rowG ss th) h]),0,0,false⟩:=by
 subst hk; have hl:¬ 16<=((rowG ss th).length:Int):=om
 simp [gDo,hh,hl]
theorem gd_same5 (hk:k=8)(hh:0<=h/\h<((rowG ss th).length:Int))(hj:¬ (0<=j/\j<((rowG ss th).length:Int))):gDo ns ss th (OpV.mk k h i j v t f m)=⟨ns,ss,5,0,false⟩:=by
 subst hk; simp only [gDo]; rw [if_neg om,if_neg om,if_neg om,if_neg om,if_neg om,if_neg om,if_neg (fun hc=>hc hh),if_neg om,if_pos hj]
theorem gd_same (hk:k=8)(hh:0<=h/\h<((rowG ss th).length:Int))(hj:0<=j/\j<((rowG ss th).length:Int)):gDo ns ss th (OpV.mk k h i j v t f m)=⟨ns,ss,0,0,ix (rowG ss th) h == ix (rowG ss th) j⟩:=by
 subst hk; simp [gDo,hh,hj]
theorem he0 {t l m:Int}(hm:0<=m)(h:(t=255/\0<=l/\l<=65535/\m=0)\/(1<=t/\t<=200/\0<=l/\l<=16/\m<2 ^ l.toNat/\m<65536)):headErr t l m=0:=by
 rcases headErr_cases t l m hm with g | g
 ·exact g.2
 ·exact absurd h g.1
theorem nds_new {ns:List Nd}{t f m:Int}(h:Nds ns)(ht : -9223372036854775808<=t/\t<=9223372036854775807)(hf:0<=f/\f<=16)(hm:0<=m/\m<=18446744073709551615):Nds (ns++[⟨t,f,m,List.replicate f.toNat 0⟩]):=by
 intro n hn
 rcases List.mem_append.1 hn with hn | hn
 ·exact h n hn
 ·rw [List.mem_singleton] at hn
  subst hn
  refine ⟨ht,⟨by show _<=f; omega,by show f<=_; omega⟩,hm,fun x hx=>?_,by simp; omega⟩
  have:=List.eq_of_mem_replicate hx
  omega
theorem gok_new {ns:List Nd}{ss:List (List Int)}{t f m:Int}(G:GOk ns ss)(hf:0<=f/\f<=16):GOk (ns++[⟨t,f,m,List.replicate f.toNat 0⟩]) ss:=by
 have hl:((ns++[(⟨t,f,m,List.replicate f.toNat 0⟩ : Nd)]).length:Int)=(ns.length:Int) + 1:=by simp
 refine ⟨fun x hx=>?_,fun k k0 k1=>?_⟩
 ·have:=G.1 x hx; simp only [List.length_append,List.length_singleton]; omega
 ·by_cases hk:k<(ns.length:Int)
  ·have e:ndA (ns++[(⟨t,f,m,List.replicate f.toNat 0⟩ : Nd)]) k=ndA ns k:=by
    unfold ndA; rw [List.getD_eq_getElem?_getD,List.getD_eq_getElem?_getD,List.getElem?_append_left om]
   rw [e]
   obtain ⟨g1,g2⟩:=G.2 k k0 hk
   exact ⟨g1,fun p hp=>by have:=g2 p hp; omega⟩
  ·have e:ndA (ns++[(⟨t,f,m,List.replicate f.toNat 0⟩ : Nd)]) k=⟨t,f,m,List.replicate f.toNat 0⟩:=by
    unfold ndA; rw [List.getD_eq_getElem?_getD,List.getElem?_append_right om,show k.toNat - ns.length=0 by omega]; rfl
   rw [e]
   refine ⟨⟨by simp; omega,hf.1,hf.2⟩,fun p hp=>?_⟩
   obtain ⟨z1,_,rfl⟩:=List.mem_map.1 hp
   have hz:ix (List.replicate f.toNat (0:Int)) z1=0:=by unfold ix; simp [List.getD_eq_getElem?_getD,List.getElem?_replicate]; split <;> rfl
   show 0<=ix (List.replicate f.toNat (0:Int)) z1/\_
   rw [hz]; omega
end
section
variable {ns:List Nd} {ss:List (List Int)} {th h i:Int} {pt:Bool}
theorem gf_in (G:GOk ns ss)(ht:0<=th/\th<(ss.length:Int))(e:gfE ns (rowG ss th) h i pt=0):(0<=h/\h<((rowG ss th).length:Int))/\(1<=ix (rowG ss th) h/\ix (rowG ss th) h<=(ns.length:Int))/\(0<=i/\i<((ndA ns (ix (rowG ss th) h - 1)).f.length:Int))/\(ndA ns (ix (rowG ss th) h - 1)).l=((ndA ns (ix (rowG ss th) h - 1)).f.length:Int):=by
 obtain ⟨h1,h2,h3,_⟩:=gfE_0 e
 have h4:=G.hd ht.1 ht.2 h1.1 h1.2
 have h5:=G.nd (k:=ix (rowG ss th) h - 1) om om
 exact ⟨h1,om,om,h5.1.symm⟩
theorem gf_pt (G:GOk ns ss)(ht:0<=th/\th<(ss.length:Int))(e:gfE ns (rowG ss th) h i true=0):0<=ix (ndA ns (ix (rowG ss th) h - 1)).f i/\ix (ndA ns (ix (rowG ss th) h - 1)).f i<=(ns.length:Int):=by
 obtain ⟨h1,h2,h3,h6⟩:=gfE_0 e
 have h4:=G.hd ht.1 ht.2 h1.1 h1.2
 refine (G.2 (ix (rowG ss th) h - 1) om om).2 _ (List.mem_map.2 ⟨i,?_,rfl⟩)
 have:=ptL_has (l:=(ndA ns (ix (rowG ss th) h - 1)).l) (m:=(ndA ns (ix (rowG ss th) h - 1)).m) (k:=Int.toNat (ndA ns (ix (rowG ss th) h - 1)).l) (i:=i.toNat) om (by rw [show ((i.toNat:Nat):Int)=i by omega]; exact h6)
 rwa [show ((i.toNat:Nat):Int)=i by omega] at this
end
end Go.Proofs.YtmmfpkkamgapkaaGreat.X
