/- Maps that are sets of words; an object's pointers; which objects are sound. No program in sight. -/
import Derived.Test.YtmmfpkkamgapkaaGreatXq
import Derived.Test.YtmmfpkkamgapkaaGreatXm3
import Derived.Test.YtmmfpkkamgapkaaGreatXq6
import Derived.Test.YtmmfpkkamgapkaaGreatXu1
import Derived.Test.YtmmfpkkamgapkaaGreatXq4
namespace Go.Proofs.YtmmfpkkamgapkaaGreat.X
open Go Go.RowKit
section
variable {P:Program} {T:Tab} {N n0:Nat} {ops:Array Oper}
end
def XE.jump:XE->Option Code
 | .normal=>none
 | .ret=>some .ret
 | .exit i=>some (.exit i)
 | .goto l=>some (.goto l)
section
variable {rd:Option Nat} {P:Program} {T:Tab} {N n0:Nat} {ops:Array Oper}
end
section
variable {rd:Option Nat} {P:Program} {T:Tab} {N n0:Nat} {ops:Array Oper}
variable {i:Nat} {K:St->Prop} {s s2:St} {d:Option Nat} {r nb:Nat} {q:Lp}
end
theorem denL_nil {Γ:Gh}{ρ:Env}{n:Nat}(h0:Den Γ ρ (.own n) (.slice none 0 0)):∀ (l:List SV) (vs:List Value) (j:Nat),DenL Γ ρ l vs->l[j]? = some .nils->DenL Γ ρ (l.set j (.own n)) vs
 | [],_,j,_,hj=>by simp at hj
 | s :: l,vs,0,h,hj=>by
  simp only [List.getElem?_cons_zero,Option.some.injEq] at hj
  subst hj
  simp only [DenL] at h
  obtain ⟨v,r,e,h1,h2⟩:=h
  simp only [Den] at h1
  simp only [List.set_cons_zero,DenL]
  exact ⟨v,r,e,by rw [h1]; exact h0,h2⟩
 | s :: l,vs,j + 1,h,hj=>by
  simp only [List.getElem?_cons_succ] at hj
  simp only [DenL] at h
  obtain ⟨v,r,e,h1,h2⟩:=h
  simp only [List.set_cons_succ,DenL]
  exact ⟨v,r,e,h1,denL_nil h0 l r j h2 hj⟩
theorem bdL_nil {n m:Nat}(h:n<m):∀ (l:List SV) (j:Nat),bdL m l=true->bdL m (l.set j (.own n))=true
 | [],_,h=>h
 | s :: l,0,hb=>by
  simp only [bdL,Bool.and_eq_true,List.set_cons_zero] at *
  exact ⟨by simpa [SV.bd] using h,hb.2⟩
 | s :: l,j + 1,hb=>by
  simp only [bdL,Bool.and_eq_true,List.set_cons_succ] at *
  exact ⟨hb.1,bdL_nil h l j hb.2⟩
section
variable {rd:Option Nat} {P:Program} {T:Tab} {N n0:Nat}
theorem le_nilCell (r j z E F:Nat){l:List SV}{s:St}(hr:fnd s.mem r=some (.cells l F))(hj:l[j]? = some .nils):Le N n0 s ⟨s.fr,(s.nx,.row z E []) :: upd s.mem r (.cells (l.set j (.own s.nx)) F),s.nx + 1⟩:=fun Γ ρ w a hn hok=>by
 have hs:=Env.add_same ρ s.nx none (some (.slice none 0 0))
 have hsome:(fnd s.mem r).isSome=true:=by rw [hr]; rfl
 obtain ⟨⟨bq,arr,k1,k2,k3,k4,k5⟩,hrn,hbd⟩:=hok.inv.priv r _ hr
 have hold:∀ r' B,fnd (upd s.mem r (.cells (l.set j (.own s.nx)) F)) r'=some B->∃ B',fnd s.mem r'=some B':=fun r' B hB=>by
  rw [fnd_upd _ _ _ _ hsome] at hB
  split at hB
  ·rename_i e; subst e; exact ⟨_,hr⟩
  ·exact ⟨B,hB⟩
 refine ⟨ρ.add s.nx none (some (.slice none 0 0)),Env.same_mono hn hs,Nat.le_succ_of_le hn,⟨⟨hok.inv.pub,fun r' B hB=>?_,fun r1 r2 c B B' hB hB' hc hc'=>?_⟩,hok.marks,hok.frame.size,fun d' s' hd=>?_⟩,?_⟩
 ·rw [fnd_cons] at hB
  split at hB
  ·rename_i e; subst e; cases hB
   exact ⟨⟨_,Env.add_val _ _ _ _,.inl ⟨rfl,rfl,Env.add_blk _ _ _ _⟩⟩,Nat.lt_succ_self _,rfl⟩
  ·rw [fnd_upd _ _ _ _ hsome] at hB
   split at hB
   ·rename_i e; subst e; cases hB
    refine ⟨⟨bq,arr,by rw [(hs r' hrn).1]; exact k1,k2,denL_nil ?_ _ _ _ (DenL.ext (Gh.le_refl _) l _ hs hbd k3) hj,k4,k5⟩,Nat.lt_succ_of_lt hrn,bdL_nil (Nat.lt_succ_self _) l j (bdL_mono (Nat.le_succ _) l hbd)⟩
    simp only [Den]
    exact ⟨Env.add_val _ _ _ _,rfl⟩
   ·obtain ⟨h1,h2,h3⟩:=hok.inv.priv r' B hB
    exact ⟨h1.move (Gh.le_refl _) hs h2 h3 (fun c hc=>⟨rfl,id⟩),Nat.lt_succ_of_lt h2,B.bd_mono (Nat.le_succ _) h3⟩
 ·rw [fnd_cons] at hB hB'
  split at hB <;> split at hB'
  ·omega
  ·rename_i e e'; subst e; rw [Env.add_blk] at hc; cases hc
  ·rename_i e e'; subst e'; rw [Env.add_blk] at hc'; cases hc'
  ·obtain ⟨C,hC⟩:=hold r1 B hB
   obtain ⟨C',hC'⟩:=hold r2 B' hB'
   rw [(hs r1 (hok.inv.priv r1 C hC).2.1).1] at hc
   rw [(hs r2 (hok.inv.priv r2 C' hC').2.1).1] at hc'
   exact hok.inv.inj r1 r2 c C C' hC hC' hc hc'
 ·have:=hok.frame.slot d' s' hd
  exact ⟨Den.ext (Gh.le_refl _) s' _ hs this.2 this.1,SV.bd_mono (Nat.le_succ _) s' this.2⟩
 ·rintro c ⟨r',B,hB,hc⟩
  rw [fnd_cons] at hB
  split at hB
  ·rename_i e; subst e; rw [Env.add_blk] at hc; cases hc
  ·obtain ⟨C,hC⟩:=hold r' B hB
   rw [(hs r' (hok.inv.priv r' C hC).2.1).1] at hc
   exact ⟨r',C,hC,hc⟩
theorem xw_nilcell {c:Code}{K:XE->St->Prop}{s:St}(r j z E F:Nat){l:List SV}(hr:fnd s.mem r=some (.cells l F))(hj:l[j]? = some .nils)(hx:XW rd P N n0 c K ⟨s.fr,(s.nx,.row z E []) :: upd s.mem r (.cells (l.set j (.own s.nx)) F),s.nx + 1⟩):XW rd P N n0 c K s:=xw_le (le_nilCell r j z E F hr hj) hx
end
def ptL (l m:Int):Nat->List Int
 | 0=>[]
 | k + 1=>if isPtr l m k=true then ptL l m k++[(k:Int)] else ptL l m k
theorem ptL_0 (l m:Int):ptL l m (Int.toNat 0)=[]:=rfl
theorem ptL_yes {l m i n:Int}(h0:0<=i)(h:isPtr l m i=true)(hn:n=i + 1):ptL l m (Int.toNat i)++[i]=ptL l m (Int.toNat n):=by
 have e:Int.toNat n=Int.toNat i + 1:=om
 have e2:((Int.toNat i:Nat):Int)=i:=om
 rw [e]
 simp only [ptL]
 rw [e2,if_pos h]
theorem ptL_no {l m i n:Int}(h0:0<=i)(h:isPtr l m i=false)(hn:n=i + 1):ptL l m (Int.toNat i)=ptL l m (Int.toNat n):=by
 have e:Int.toNat n=Int.toNat i + 1:=om
 have e2:((Int.toNat i:Nat):Int)=i:=om
 rw [e]
 simp only [ptL]
 rw [e2,h]
 simp
theorem ptL_eq {l m i n:Int}(h:i=n):ptL l m (Int.toNat i)=ptL l m (Int.toNat n):=by rw [h]
theorem ptL_in {l m:Int} : ∀ (k:Nat) (x:Int),x∈ptL l m k->isPtr l m x=true/\0<=x/\x<(k:Int)
 | 0,x,h=>by simp [ptL] at h
 | k + 1,x,h=>by
  simp only [ptL] at h
  split at h
  ·rename_i hp
   rcases List.mem_append.1 h with h | h
   ·obtain ⟨h1,h2,h3⟩:=ptL_in k x h; exact ⟨h1,h2,om⟩
   ·simp at h; subst h; exact ⟨hp,om,om⟩
  ·obtain ⟨h1,h2,h3⟩:=ptL_in k x h; exact ⟨h1,h2,om⟩
theorem ptL_len {l m:Int} : ∀ (k:Nat),(ptL l m k).length<=k
 | 0=>by simp [ptL]
 | k + 1=>by
  have:=ptL_len (l:=l) (m:=m) k
  simp only [ptL]
  split
  ·simp; omega
  ·omega
theorem ptL_le {l m i:Int}(h:0<=i):((ptL l m (Int.toNat i)).length:Int)<=i:=by
 have:=ptL_len (l:=l) (m:=m) (Int.toNat i)
 omega
def TwOk (W:Int)(xs ys:List Int)(s a t:Int):Prop :=
 (a=0/\t=0)\/(a≠0/\(1<=a / 4294967296/\a / 4294967296<=2)/\a / 4294967296 - 1=s/\t=a) \/
 (a≠0/\¬ (a / 4294967296 - 1=s)/\oErr W xs ys a=0/\ldw xs ys a / 72057594037927936≠255/\t≠0/\ldw xs ys (a + 1)=t)
structure TwAll (W:Int) (xs ys:List Int) (s:Int) (as ts:List Int):Prop where
 each:∀ k:Int,0<=k->k<(ts.length:Int)->TwOk W xs ys s (ix as k) (ix ts k)
section
variable {W:Int} {xs ys as ts:List Int} {a c n s t:Int}
theorem TwAll.nil:TwAll W xs ys s as []:=⟨fun k h0 h=>by simp at h; omega⟩
theorem TwOk.move {a' t':Int}(h:TwOk W xs ys s a' t')(h1:(xs.length:Int)=W)(h2:(ys.length:Int)=W)(hn:2<=n)(ha:1<=a / 4294967296/\a / 4294967296<=2/\a % 4294967296 + n<=W)(hc:1<=c / 4294967296/\c / 4294967296<=2/\c % 4294967296 + n<=W)(hW:W<=4096)
  (hs:c / 4294967296 - 1=s) (hno:ldw xs ys (a + 1)=0):TwOk W (tX xs ys a c n) (tY xs ys a c n) s a' t':=by
 rcases h with h | h | ⟨g1,g2,g3,g4,g5,g6⟩
 ·exact .inl h
 ·exact .inr (.inl h)
 ·obtain ⟨k1,k2,k3⟩:=oErr_ok W xs ys a' g3
  have hz:a'≠a + 1:=fun e=>by
   subst e; rw [hno] at k2; omega
  have hw:ldw (tX xs ys a c n) (tY xs ys a c n) a'=ldw xs ys a':=by
   rcases tw_d h1 h2 hn ha hc hW (d:=a') ⟨k1.1,k1.2.1⟩ with h | h | h
   ·exact h
   ·exact absurd h hz
   ·omega
  have hw2:ldw (tX xs ys a c n) (tY xs ys a c n) (a' + 1)=ldw xs ys (a' + 1):=by
   rcases tw_d h1 h2 hn ha hc hW (d:=a' + 1) om with h | h | h
   ·exact h
   ·rw [h] at g6; omega
   ·omega
  exact .inr (.inr ⟨g1,g2,by rw [oErr_cong hw]; exact g3,by rw [hw]; exact g4,g5,by rw [hw2]; exact g6⟩)
theorem TwAll.move (h:TwAll W xs ys s as ts)(h1:(xs.length:Int)=W)(h2:(ys.length:Int)=W)(hn:2<=n)(ha:1<=a / 4294967296/\a / 4294967296<=2/\a % 4294967296 + n<=W)(hc:1<=c / 4294967296/\c / 4294967296<=2/\c % 4294967296 + n<=W)(hW:W<=4096)
  (hs:c / 4294967296 - 1=s) (hno:ldw xs ys (a + 1)=0):TwAll W (tX xs ys a c n) (tY xs ys a c n) s as ts:=⟨fun k h0 hk=>(h.each k h0 hk).move h1 h2 hn ha hc hW hs hno⟩
end
def nW (w:Int):Int:=if w / 72057594037927936=255 then (w / 4294967296) % 16777216 + 1 else (w / 4294967296) % 16777216 + 2
def gy (W:Int)(xs ys:List Int)(s b:Int):Nat->Int->Int
 | 0,p=>if p=b then 0 else -1
 | f + 1,p=>if p=b then 0 else if oErr W xs ys ((s + 1) * 4294967296 + p)≠0\/b<p + nW (ldw xs ys ((s + 1) * 4294967296 + p)) then -1
  else if gy W xs ys s b f (p + nW (ldw xs ys ((s + 1) * 4294967296 + p))) = -1 then -1 else gy W xs ys s b f (p + nW (ldw xs ys ((s + 1) * 4294967296 + p))) + 1
section
variable {W:Int} {xs ys us vs:List Int} {s b p q:Int}
end
def hN (t l:Int):Int:=if t=255 then l + 1 else l + 2
structure Kp (xs ys us vs:List Int) (s b lo:Int):Prop where
 each:∀ j,lo<=j->j<b->ldw us vs ((s + 1) * 4294967296 + j)=ldw xs ys ((s + 1) * 4294967296 + j)
section
variable {W:Int} {xs ys us vs:List Int} {s b b1 b2 lo d v:Int}
theorem isPtr_0 (l i:Int):isPtr l 0 i=false:=by
 unfold isPtr
 apply decide_eq_false
 rintro ⟨_,_,_,h⟩
 simp at h
theorem ptl_ix {l m t k:Int}(h0:0<=k)(hk:k<=((ptL l m (Int.toNat l)).length:Int))(ht:t=255->m=0):k=((ptL l m (Int.toNat l)).length:Int)\/(k<((ptL l m (Int.toNat l)).length:Int)/\0<=ix (ptL l m (Int.toNat l)) k/\ix (ptL l m (Int.toNat l)) k<l/\t≠255):=by
 by_cases e:k=((ptL l m (Int.toNat l)).length:Int)
 ·exact .inl e
 ·right
  have hlt:k.toNat<(ptL l m (Int.toNat l)).length:=om
  have hm:ix (ptL l m (Int.toNat l)) k∈ptL l m (Int.toNat l):=by
   unfold ix
   simp [hlt]
  obtain ⟨h1,h2,h3⟩:=ptL_in _ _ hm
  refine ⟨om,h2,om,fun e=>?_⟩
  rw [ht e,isPtr_0] at h1
  cases h1
theorem ptL_i64 (l m:Int)(hl:0<=l/\l<=16777216):I64s (ptL l m (Int.toNat l)):=fun x hx=>by
 obtain ⟨_,h2,h3⟩:=ptL_in _ _ hx
 omega
end
theorem Kp.rfl {xs ys:List Int}{s b lo:Int} : Kp xs ys xs ys s b lo:=⟨fun _ _ _=>Eq.refl _⟩
section
variable {W:Int} {xs ys us vs us2 vs2:List Int} {s b b2 lo lo2 d v a n:Int}
theorem Kp.trans (h:Kp xs ys us vs s b lo)(k:Kp us vs us2 vs2 s b2 lo2)(hb:b<=b2)(hl:lo2<=lo):Kp xs ys us2 vs2 s b lo :=
 ⟨fun j h1 h2=>(k.each j om om).trans (h.each j h1 h2)⟩
theorem Kp.set (h:Kp xs ys us vs s b lo)(hs:s=0\/s=1)(hd:1<=d / 4294967296/\d / 4294967296<=2)(hb:0<=lo/\b<=4096)(hlo:d<(s + 1) * 4294967296 + lo):Kp xs ys (stx us d v) (sty vs d v) s b lo :=
 ⟨fun j h1 h2=>by rw [ldw_other v hd om om]; exact h.each j h1 h2⟩
end
set_option linter.unusedVariables false
def hasB (xs:List Int)(n:Int):Bool:=decide (n∈xs)
def ptrs (W:Int)(xs ys:List Int)(a:Int):List Int :=
 if oErr W xs ys a=0 then (ptL ((ldw xs ys a / 4294967296) % 16777216) (ldw xs ys a % 4294967296) (Int.toNat ((ldw xs ys a / 4294967296) % 16777216))).map fun i=>ldw xs ys (a + 2 + i) else []
def okB (l:List Int)(v:Int):Bool:=v == 0 || decide (v∈l)
def snB (W:Int)(xs ys l:List Int)(i:Int):Bool:=(l.take i.toNat).all fun a=>(ptrs W xs ys a).all (okB l)
section
variable {W:Int} {xs ys l:List Int} {a i k v:Int}
theorem ptrs_1 (h:oErr W xs ys a=0):ptrs W xs ys a=(ptL ((ldw xs ys a / 4294967296) % 16777216) (ldw xs ys a % 4294967296) (Int.toNat ((ldw xs ys a / 4294967296) % 16777216))).map fun i=>ldw xs ys (a + 2 + i):=by unfold ptrs; rw [if_pos h]
theorem ptrs_0 (h:oErr W xs ys a≠0):ptrs W xs ys a=[]:=by unfold ptrs; rw [if_neg h]
theorem ix_map {f:Int->Int}{xs:List Int}(h0:0<=k)(h:k<(xs.length:Int)):ix (xs.map f) k=f (ix xs k):=by
 have h2:k.toNat<xs.length:=om
 simp [ix,h2]
theorem take_all1 {p:Int->Bool}(h0:0<=k)(h:k<(l.length:Int))(h1:(l.take k.toNat).all p=true)(h2:p (ix l k)=true):(l.take (k + 1).toNat).all p=true:=by
 rw [take_next h0 h,List.all_append,h1]; simp [h2]
theorem snB_0:snB W xs ys l 0=true:=rfl
theorem snB_next (h0:0<=i)(h:i<(l.length:Int))(h1:snB W xs ys l i=true)(h2:(ptrs W xs ys (ix l i)).all (okB l)=true):snB W xs ys l (i + 1)=true:=take_all1 h0 h h1 h2
end
def rlB (W:Int)(xs ys:List Int)(a:Int):Bool:=decide (oErr W xs ys a=0/\ldw xs ys a / 72057594037927936≠255)
section
variable {W:Int} {xs ys l:List Int} {a i k v:Int}
theorem hasB_0 (l:List Int):hasB (l.take (Int.toNat 0)) a=false:=by simp [hasB]
theorem hasB_next (h0:0<=i)(h:i<(l.length:Int))(h1:hasB (l.take (Int.toNat i)) a=false)(h2:ix l i≠a):hasB (l.take (Int.toNat (i + 1))) a=false:=by
 unfold hasB at *
 rw [take_next h0 h]
 simp only [decide_eq_false_iff_not,List.mem_append,List.mem_singleton] at *
 exact fun h3=>h3.elim h1 (fun e=>h2 e.symm)
theorem hasB_at (h0:0<=i)(h:i<(l.length:Int))(e:ix l i=a):hasB l a=true:=by
 have h3:i.toNat<l.length:=om
 have h4:ix l i=l[i.toNat]:=by simp [ix,h3]
 unfold hasB
 rw [<- e,h4]
 exact decide_eq_true (List.getElem_mem h3)
theorem hasB_end (h1:hasB (l.take (Int.toNat i)) a=false)(h:(l.length:Int)<=i):hasB l a=false:=by
 rwa [List.take_of_length_le om] at h1
theorem ptL_m0 (l:Int)(k:Nat):ptL l 0 k=[]:=by
 cases h:ptL l 0 k with
 | nil=>rfl
 | cons x r =>
  have:=(ptL_in k x (by rw [h]; exact List.mem_cons_self)).1
  simp [isPtr] at this
theorem ptrs_le:((ptrs W xs ys a).length:Int)<=64:=by
 by_cases h:oErr W xs ys a=0
 ·rw [ptrs_1 h]
  obtain ⟨_,h2,_⟩:=oErr_ok W xs ys a h
  rcases h2 with ⟨_,_,_,h2⟩ | ⟨_,_,_,h2,_⟩
  ·rw [h2,ptL_m0]; simp
  ·have:=ptL_len (l:=(ldw xs ys a / 4294967296) % 16777216) (m:=ldw xs ys a % 4294967296) (Int.toNat ((ldw xs ys a / 4294967296) % 16777216))
   simp only [List.length_map]; omega
 ·rw [ptrs_0 h]; simp
theorem ptrs_u64 (h1:U64s xs)(h2:U64s ys):U64s (ptrs W xs ys a):=by
 intro v hv
 unfold ptrs at hv
 split at hv
 ·obtain ⟨i,_,rfl⟩:=List.mem_map.1 hv
  exact ldw_ok xs ys _ h1 h2
 ·cases hv
theorem ptrs_tk:(((ptrs W xs ys a).take (Int.toNat k)).length:Int)<=64:=by
 have:=ptrs_le (W:=W) (xs:=xs) (ys:=ys) (a:=a)
 simp only [List.length_take]; omega
theorem ptrs_next (ho:oErr W xs ys a=0)(h0:0<=k)(h:k<((ptL ((ldw xs ys a / 4294967296) % 16777216) (ldw xs ys a % 4294967296) (Int.toNat ((ldw xs ys a / 4294967296) % 16777216))).length:Int)) :
  (ptrs W xs ys a).take (Int.toNat k)++[ldw xs ys (a + 2 + ix (ptL ((ldw xs ys a / 4294967296) % 16777216) (ldw xs ys a % 4294967296) (Int.toNat ((ldw xs ys a / 4294967296) % 16777216))) k)]=(ptrs W xs ys a).take (Int.toNat (k + 1)):=by
 rw [take_next h0 (by rw [ptrs_1 ho]; simpa using h)]
 congr 2
 rw [ptrs_1 ho,ix_map h0 h]
theorem ptrs_end (ho:oErr W xs ys a=0)(h:((ptL ((ldw xs ys a / 4294967296) % 16777216) (ldw xs ys a % 4294967296) (Int.toNat ((ldw xs ys a / 4294967296) % 16777216))).length:Int)<=k):(ptrs W xs ys a).take (Int.toNat k)=ptrs W xs ys a :=
 List.take_of_length_le (by rw [ptrs_1 ho]; simp; omega)
end
section
variable {W:Int} {xs ys l:List Int} {i k v:Int}
end
end Go.Proofs.YtmmfpkkamgapkaaGreat.X
