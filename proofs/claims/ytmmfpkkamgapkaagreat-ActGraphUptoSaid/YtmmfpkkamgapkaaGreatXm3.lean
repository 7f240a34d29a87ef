/- Short steps for printed proofs. -/
import Derived.Test.YtmmfpkkamgapkaaGreatXr
namespace Go.Proofs.YtmmfpkkamgapkaaGreat.X
open Go Go.RowKit
section
variable {rd:Option Nat} {P:Program} {T:Tab} {N n0:Nat} {ops:Array Oper} {mem:Mem} {nx:Nat}
def sgm (sg:List (Mem×Nat))(k:Nat):Mem:=match sg[k]? with | some x=>x.1 | none=>[]
def sgn (sg:List (Mem×Nat))(k:Nat):Nat:=match sg[k]? with | some x=>x.2 | none=>0
def bfAt (bf:List (Nat×List Nat))(i:Nat):List Nat:=match fnd bf i with | some l=>l | none=>[]
def hasN:List Nat->Nat->Bool
 | [],_=>false
 | a :: l,n=>match Nat.beq a n with
  | true=>true
  | false=>hasN l n
theorem hasN_mem:∀ {l:List Nat} {n:Nat},hasN l n=true->n∈l
 | a :: l,n,h=>by
  simp only [hasN] at h
  split at h
  ·rename_i e; rw [Nat.eq_of_beq_eq_true e]; simp
  ·simp [hasN_mem h]
def bfOk (ops:Array Oper)(bf:List (Nat×List Nat)):Bool:=bf.all fun x=>match ops[x.1]? with
 | some o=>x.2.all fun j=>o.after.any fun e=>Region.binds .any e && Nat.blt e.on x.1 && (Nat.beq e.on j || hasN (bfAt bf e.on) j)
 | none=>false
def chainOk (bf:List (Nat×List Nat)):List Nat->Bool
 | []=>true
 | w :: ws=>(ws.all fun v=>hasN (bfAt bf v) w) && chainOk bf ws
def mayAt (bf:List (Nat×List Nat))(i k:Nat):Nat->List Nat->Bool
 | _,[]=>true
 | c,w :: ws=>(match hasN (bfAt bf i) w with | true=>Nat.blt c k | false=>true) && (match hasN (bfAt bf w) i with | true=>Nat.ble k c | false=>true) && mayAt bf i k (c + 1) ws
def wIdx (i:Nat):Nat->List Nat->Option Nat
 | _,[]=>none
 | c,w :: ws=>match Nat.beq w i with
  | true=>some c
  | false=>wIdx i (c + 1) ws
theorem fnd_mem' {α:Type} : ∀ {l:List (Nat×α)} {n:Nat} {x:α},fnd l n=some x->(n,x)∈l
 | (k,v) :: l,n,x,h=>by
  rw [fnd_cons] at h
  split at h
  ·rename_i e; subst e; cases h; simp
  ·simp [fnd_mem' h]
theorem bf_listed {bf:List (Nat×List Nat)}(hbf:bfOk ops bf=true){listed:Array Bool}(hdown:∀ j o,ops[j]? = some o->listed.getD j true=true->∀ e∈o.after,Region.binds .any e=true->listed.getD e.on false=true)(hlt:∀ j,listed.getD j false=true->listed.getD j true=true) :
  ∀ (n i j:Nat) (o:Oper),i<=n->ops[i]? = some o->j∈bfAt bf i->(∀ e∈o.after,Region.binds .any e=true->listed.getD e.on false=true)->listed.getD j false=true:=by
 intro n
 induction n with
 | zero =>
  intro i j o hi ho hj hready
  have hi0:i=0:=om
  subst hi0
  unfold bfAt at hj
  split at hj
  ·rename_i l hl
   have h1:=List.all_eq_true.1 hbf _ (fnd_mem' hl)
   simp only [ho] at h1
   have h2:=List.all_eq_true.1 h1 j hj
   rw [Array.any_eq_true'] at h2
   obtain ⟨e,_,h3⟩:=h2
   simp at h3
  ·cases hj
 | succ n ih =>
  intro i j o hi ho hj hready
  have hj':=hj
  unfold bfAt at hj
  split at hj
  ·rename_i l hl
   have h1:=List.all_eq_true.1 hbf _ (fnd_mem' hl)
   simp only [ho] at h1
   have h2:=List.all_eq_true.1 h1 j hj
   rw [Array.any_eq_true'] at h2
   obtain ⟨e,he,h3⟩:=h2
   simp only [Bool.and_eq_true,Bool.or_eq_true] at h3
   obtain ⟨⟨hb,hlt1⟩,h4⟩:=h3
   have hlt1:e.on<i:=by simpa using hlt1
   have hl1:=hready e he hb
   rcases h4 with h4 | h4
   ·rw [<- Nat.eq_of_beq_eq_true h4]; exact hl1
   ·have hi2:i<ops.size:=(Array.getElem?_eq_some_iff.1 ho).1
    have ho2:ops[e.on]? = some ops[e.on]:=Array.getElem?_eq_getElem om
    exact ih e.on j _ om ho2 (hasN_mem h4) (fun e2 h5 h6=>hdown e.on _ ho2 (hlt _ hl1) e2 h5 h6)
  ·cases hj
def SStep (P:Program)(N:Nat)(ops:Array Oper)(sg:List (Mem×Nat))(ws:List Nat)(bf:List (Nat×List Nat))(fr:Fr)(i:Nat)(o:Oper)(sv:SV):Prop :=
 match wIdx i 0 ws with
 | some c=>gd ops (rs fr (o.looksAt ops)) o.guard=some true/\OpOk P N (rs fr (o.looksAt ops)) (sgm sg c) (sgn sg c) o sv (sgm sg (c + 1)) (sgn sg (c + 1)) \/
   gd ops (rs fr (o.looksAt ops)) o.guard=some true/\∃ f args,callee (rs fr (o.looksAt ops)) o.op=some (f,args)/\XCall P f args (sgm sg c) (sgn sg c) fun s m n=>s=sv/\m=sgm sg (c + 1)/\n=sgn sg (c + 1)
 | none=>∀ k,k<=ws.length->mayAt bf i k 0 ws=true->QStep P N ops (sgm sg k) (sgn sg k) fr o sv
def SAll (P:Program)(N:Nat)(ops:Array Oper)(sg:List (Mem×Nat))(ws:List Nat)(bf:List (Nat×List Nat)):Nat->List Oper->List SV->Fr->Prop
 | _,[],[],_=>True
 | i,o :: l,s :: ss,fr=>SStep P N ops sg ws bf fr i o s/\SAll P N ops sg ws bf (i + 1) l ss (putO fr o.dst s)
 | _,_,_,_=>False
variable {sg:List (Mem×Nat)} {ws:List Nat} {bf:List (Nat×List Nat)}
theorem SAll.len:∀ {i:Nat} {l:List Oper} {ss:List SV} {fr:Fr},SAll P N ops sg ws bf i l ss fr->ss.length=l.length
 | _,[],[],_,_=>rfl
 | _,[],_ :: _,_,h=>h.elim
 | _,_ :: _,[],_,h=>h.elim
 | i,o :: l,s :: ss,fr,h=>by simp [SAll.len h.2]
theorem SAll.at:∀ {i0:Nat} {l:List Oper} {ss:List SV} {fr:Fr},SAll P N ops sg ws bf i0 l ss fr->∀ i o s,l[i]? = some o->ss[i]? = some s->SStep P N ops sg ws bf (lexFr fr (l.take i) (ss.take i)) (i0 + i) o s
 | _,[],_,_,_,i,o,s,h,_=>by simp at h
 | _,_ :: _,[],_,h,_,_,_,_,_=>h.elim
 | i0,o' :: l,s' :: ss,fr,h,0,o,s,h1,h2=>by
  simp at h1 h2; subst h1 h2
  simpa [lexFr] using h.1
 | i0,o' :: l,s' :: ss,fr,h,i + 1,o,s,h1,h2=>by
  simp at h1 h2
  have:=SAll.at h.2 i o s h1 h2
  rw [show i0 + (i + 1)=i0 + 1 + i by omega]
  simpa [lexFr] using this
theorem QInv.stepTo {fr:Fr}{ss:List SV}{Γ Γ':Gh}{ρ ρ':Env}{w w':World}{a:Act}{listed:Array Bool}(h:QInv N ops mem nx fr ss Γ ρ w a listed)(hu:uniq ops.toList=true)(hfit:∀ (i:Nat) (o:Oper) (d:Nat),ops[i]? = some o->o.dst=some d->d<N)
  {i:Nat} {o:Oper} {s:SV} {v:Value} (ho:ops[i]? = some o) (hs:ss[i]? = some s) (hready:∀ e∈o.after,Region.binds .any e=true->listed.getD e.on false=true)
  {mem':Mem} {nx':Nat} (hst:Stp ρ mem w ρ' mem' w') (hnx:nx<=nx') (hi':Inv Γ' ρ' nx' mem' w') (hle:Γ.le Γ') (hsame:Env.same nx ρ ρ') (hv:Den Γ' ρ' s v) (hb:s.bd nx'=true):QInv N ops mem' nx' fr ss Γ' ρ' w' (a.put o.dst v) (listed.setIfInBounds i true):=by
 have hil:i<listed.size:=by rw [h.lsize]; exact (Array.getElem?_eq_some_iff.1 ho).1
 have hput:∀ t,o.dst≠some t->(a.put o.dst v).tmps.getD t undef=a.tmps.getD t undef:=fun t ht=>by
  cases hd:o.dst with
  | none=>rfl
  | some d =>
   rw [hd] at ht
   have:d≠t:=fun e=>ht (by rw [e])
   simp [Act.put,this]
 have hself:∀ d,o.dst=some d->(a.put o.dst v).tmps.getD d undef=v:=fun d hd=>by
  have:d<a.tmps.size:=by rw [h.size]; exact hfit i o d ho hd
  simp [Act.put,hd,this]
 refine ⟨hi',?_,?_,fun t x hx hno=>?_,fun j oj x d hj hsj hl hd=>?_,fun j oj hj hl e he hbe=>?_,by simp [h.lsize]⟩
 ·rw [put_defers]; exact h.defers.step h.inv hst hle
 ·cases hd:o.dst <;> simpa [Act.put] using h.size
 ·have hne:o.dst≠some t:=fun e=>by
   have:=hno i o ho e
   rw [getD_set listed i i hil] at this
   simp at this
  rw [hput t hne]
  obtain ⟨h1,h2⟩:=h.old t x hx (fun j oj hj hd=>by
   have:=hno j oj hj hd
   rw [getD_set listed i j hil] at this
   split at this
   ·cases this
   ·exact this)
  exact ⟨Den.ext hle x _ hsame h2 h1,SV.bd_mono hnx x h2⟩
 ·rw [getD_set listed i j hil] at hl
  split at hl
  ·rename_i e
   subst e
   rw [ho] at hj; cases hj
   rw [hs] at hsj; cases hsj
   rw [hself d hd]
   exact ⟨hv,hb⟩
  ·rename_i hne
   have hnd:o.dst≠some d:=fun e=>hne (uniq_spec hu j i oj o d (by simpa using hj) (by simpa using ho) hd e)
   rw [hput d hnd]
   obtain ⟨h1,h2⟩:=h.new j oj x d hj hsj hl hd
   exact ⟨Den.ext hle x _ hsame h2 h1,SV.bd_mono hnx x h2⟩
 ·rw [getD_set listed i e.on hil]
  rw [getD_set listed i j hil] at hl
  split at hl
  ·rename_i e'
   subst e'
   rw [ho] at hj; cases hj
   split
   ·rfl
   ·exact hready e he hbe
  ·split
   ·rfl
   ·exact h.down j oj hj hl e he hbe
def Upto (listed:Array Bool)(ws:List Nat)(k:Nat):Prop:=k<=ws.length/\∀ c w,ws[c]? = some w->(listed.getD w true=true↔c<k)
theorem wIdx_spec {i:Nat} : ∀ {ws:List Nat} {c0 c:Nat},wIdx i c0 ws=some c->c0<=c/\ws[c - c0]? = some i
 | w :: ws,c0,c,h=>by
  simp only [wIdx] at h
  split at h
  ·rename_i e; cases h; simp [Nat.eq_of_beq_eq_true e]
  ·obtain ⟨h1,h2⟩:=wIdx_spec h
   refine ⟨om,?_⟩
   have:c - c0=(c - (c0 + 1)) + 1:=om
   rw [this]; simpa using h2
theorem wIdx_none {i:Nat} : ∀ {ws:List Nat} {c0:Nat},wIdx i c0 ws=none->∀ w∈ws,w≠i
 | w :: ws,c0,h=>by
  simp only [wIdx] at h
  split at h
  ·cases h
  ·rename_i e
   intro v hv
   rcases List.mem_cons.1 hv with rfl | hv
   ·intro e2; rw [e2,Nat.beq_refl] at e; cases e
   ·exact wIdx_none h v hv
 | [],_,_=>fun _ h=>by cases h
theorem chain_spec {bf:List (Nat×List Nat)} : ∀ {ws:List Nat},chainOk bf ws=true->∀ (c d v w:Nat),c<d->ws[c]? = some w->ws[d]? = some v->w∈bfAt bf v
 | [],_,c,d,v,w,_,h,_=>by simp at h
 | x :: ws,h,0,d + 1,v,w,_,h1,h2=>by
  simp only [chainOk,Bool.and_eq_true] at h
  simp at h1 h2; subst h1
  exact hasN_mem (List.all_eq_true.1 h.1 v (List.mem_of_getElem? h2))
 | x :: ws,h,c + 1,d + 1,v,w,hlt,h1,h2=>by
  simp only [chainOk,Bool.and_eq_true] at h
  simp at h1 h2
  exact chain_spec h.2 c d v w om h1 h2
theorem mayAt_of {bf:List (Nat×List Nat)}{i k:Nat} : ∀ {ws:List Nat} {c0:Nat},(∀ c w,ws[c]? = some w->(w∈bfAt bf i->c0 + c<k)/\(i∈bfAt bf w->k<=c0 + c))->mayAt bf i k c0 ws=true
 | [],_,_=>rfl
 | w :: ws,c0,h=>by
  obtain ⟨h1,h2⟩:=h 0 w rfl
  simp only [mayAt,Bool.and_eq_true]
  refine ⟨⟨?_,?_⟩,mayAt_of fun c w hw=>?_⟩
  ·split
   ·rename_i e; simpa using h1 (hasN_mem e)
   ·rfl
  ·split
   ·rename_i e; simpa using h2 (hasN_mem e)
   ·rfl
  ·obtain ⟨g1,g2⟩:=h (c + 1) w (by simpa using hw)
   exact ⟨fun h=>by have:=g1 h; omega,fun h=>by have:=g2 h; omega⟩
theorem xw_stage_core (hm:P.follows .mixedOrders=true){id:Nat}{K:XE->St->Prop}{fr fr2:Fr}(sg:List (Mem×Nat))(ws:List Nat)(bf:List (Nat×List Nat))(ss:List SV)(hd:drawOk N ops=true)(hbf:bfOk ops bf=true)(hch:chainOk bf ws=true)(hwr:ws.all (fun i=>Nat.blt i ops.size)=true)
  (hq:SAll P N ops sg ws bf 0 ops.toList ss fr)
  (hsub:∀ t s,fnd fr2 t=some s->fnd (lexFr fr ops.toList ss) t=some s) (hK:K .normal ⟨fr2,sgm sg ws.length,sgn sg ws.length⟩):XW rd P N n0 (.region id ops true) K ⟨fr,sgm sg 0,sgn sg 0⟩:=by
 simp only [drawOk,Bool.and_eq_true] at hd
 obtain ⟨⟨⟨⟨hu,hp⟩,hdn⟩,hown⟩,hfit⟩:=hd
 have hlen:ss.length=ops.size:=by simpa using hq.len
 have hfitS:∀ (i:Nat) (o:Oper) (d:Nat),ops[i]? = some o->o.dst=some d->d<N:=fun i o d h1 h2=>by
  have:=List.all_eq_true.1 hfit o (List.mem_of_getElem? (by simpa using h1))
  rw [h2] at this; simpa using this
 have hdown:∀ (j:Nat) (o:Oper),ops[j]? = some o->∀ e∈o.after,Region.binds .any e=true->e.on<j:=fun j o h1 e he hb=>by
  have hj:j<ops.size:=(Array.getElem?_eq_some_iff.1 h1).1
  have:=List.all_eq_true.1 hdn j (by simpa using hj)
  rw [h1] at this
  rw [Array.all_eq_true'] at this
  have:=this e he
  simpa [hb] using this
 have hpair:∀ (i j:Nat) (oi oj:Oper),i<j->ops[i]? = some oi->ops[j]? = some oj ->
   (∀ d,oi.dst=some d->d∈oj.looksAt ops->∃ e∈oj.after,e.on=i/\Region.binds .any e=true)/\(∀ d,oj.dst=some d->d∈oi.looksAt ops->∃ e∈oj.after,e.on=i/\Region.binds .any e=true):=fun i j oi oj hij h1 h2=>by
  have hj:j<ops.size:=(Array.getElem?_eq_some_iff.1 h2).1
  have:=List.all_eq_true.1 (List.all_eq_true.1 hp j (by simpa using hj)) i (by simpa using hij)
  rw [h1,h2] at this
  simp only [pairOk,Bool.and_eq_true] at this
  refine ⟨fun d hd hl=>?_,fun d hd hl=>?_⟩
  ·have:=this.1
   rw [hd] at this
   simp only [Bool.or_eq_true,Bool.not_eq_true',List.contains_eq_mem,decide_eq_false_iff_not,hl,not_true_eq_false,false_or,Array.any_eq_true'] at this
   obtain ⟨e,he,hb⟩:=this
   simp at hb
   exact ⟨e,he,hb.1,hb.2⟩
  ·have:=this.2
   rw [hd] at this
   simp only [Bool.or_eq_true,Bool.not_eq_true',List.contains_eq_mem,decide_eq_false_iff_not,hl,not_true_eq_false,false_or,Array.any_eq_true'] at this
   obtain ⟨e,he,hb⟩:=this
   simp at hb
   exact ⟨e,he,hb.1,hb.2⟩
 intro Γ0 ρ0 w0 a0 hn hok
 refine wpIn_region_any hm ?_
 have hend:∀ (listed:Array Bool) (k:Nat) (Γ:Gh) (ρ:Env) (w:World) (a:Act),QInv N ops (sgm sg k) (sgn sg k) fr ss Γ ρ w a listed->Upto listed ws k->Nxt n0 Γ0 ρ0 ⟨fr,sgm sg 0,sgn sg 0⟩ w0 Γ ρ ⟨fr2,sgm sg k,sgn sg k⟩ w->(∀ j,j<ops.size->listed.getD j true=true)->XPost N n0 K Γ0 ρ0 ⟨fr,sgm sg 0,sgn sg 0⟩ w0 .normal a w:=by
  intro listed k Γ ρ w a hI hU hN hall
  have hk:k=ws.length:=by
   refine Nat.le_antisymm hU.1 (Nat.le_of_not_lt fun hlt=>?_)
   have h1:=List.getElem?_eq_getElem hlt
   have h2:ws[k]<ops.size:=by
    have:=List.all_eq_true.1 hwr _ (List.getElem_mem hlt)
    simpa using this
   exact absurd ((hU.2 k _ h1).1 (hall _ h2)) (Nat.lt_irrefl _)
  subst hk
  refine ⟨.normal,Γ,ρ,⟨fr2,sgm sg ws.length,sgn sg ws.length⟩,rfl,⟨hI.inv,hI.defers,hI.size,fun t s ht=>?_⟩,hN,hK⟩
  have ht':=hsub t s ht
  rcases fnd_lex (fr:=fr) hu (by simpa using hlen) t with ⟨j,oj,sj,h1,h2,h3,h4⟩ | ⟨h1,h2⟩
  ·rw [h4] at ht'; cases ht'
   have hj:ops[j]? = some oj:=by simpa using h1
   exact hI.new j oj _ t hj h2 (hall j (Array.getElem?_eq_some_iff.1 hj).1) h3
  ·rw [h2] at ht'
   exact hI.old t s ht' (fun j o hj hdj=>absurd hdj (h1 j o (by simpa using hj)))
 have key:∀ (fuel:Nat) (U:List Nat) (listed:Array Bool) (k:Nat) (Γ:Gh) (ρ:Env) (w:World) (a:Act),U.length<=fuel->(∀ j,j<ops.size->listed.getD j true=false->j∈U)->QInv N ops (sgm sg k) (sgn sg k) fr ss Γ ρ w a listed->Upto listed ws k->Nxt n0 Γ0 ρ0 ⟨fr,sgm sg 0,sgn sg 0⟩ w0 Γ ρ ⟨fr2,sgm sg k,sgn sg k⟩ w ->
   wpAnyIn (fnc rd) 0 P .any ops (XPost N n0 K Γ0 ρ0 ⟨fr,sgm sg 0,sgn sg 0⟩ w0) fuel listed a w:=by
  intro fuel
  induction fuel with
  | zero =>
   intro U listed k Γ ρ w a hU hUm hI hW hN
   have hall:∀ j,j<ops.size->listed.getD j true=true:=fun j hj=>by
    cases hq:listed.getD j true with
    | true=>rfl
    | false =>
     have:=hUm j hj hq
     rw [List.eq_nil_of_length_eq_zero (Nat.le_zero.1 hU)] at this
     cases this
   refine ⟨?_,hend listed k Γ ρ w a hI hW hN hall⟩
   refine List.eq_nil_iff_forall_not_mem.2 fun i hi=>?_
   obtain ⟨h1,o,h2,_⟩:=mem_ready' hi
   rw [hall i (Array.getElem?_eq_some_iff.1 h2).1] at h1
   cases h1
  | succ fuel ih =>
   intro U listed k Γ ρ w a hU hUm hI hW hN
   refine ⟨fun hr=>hend listed k Γ ρ w a hI hW hN ?_,fun i hi=>?_⟩
   ·intro j
    induction j using Nat.strongRecOn with
    | _ j jh =>
     intro hj
     cases hq:listed.getD j true with
     | true=>rfl
     | false =>
      exfalso
      have:j∈Region.ready .any ops listed:=by
       unfold Region.ready
       rw [List.mem_filter]
       refine ⟨by simpa using hj,?_⟩
       simp only [hq,Bool.not_false,Bool.true_and]
       rw [Array.getElem?_eq_getElem hj]
       simp only [Option.map_some,Option.getD_some,Array.all_eq_true']
       intro e he
       cases hb:Region.binds .any e with
       | false=>rfl
       | true =>
        have hlt:=hdown j _ (Array.getElem?_eq_getElem hj) e he hb
        have:=getD_false_of_true (by rw [hI.lsize]; omega) (jh e.on hlt om)
        simpa using this
      rw [hr] at this; cases this
   ·obtain ⟨hun,o,ho,hready⟩:=mem_ready' hi
    have hil:i<ops.size:=(Array.getElem?_eq_some_iff.1 ho).1
    have hsi:∃ s,ss[i]? = some s:=⟨_,List.getElem?_eq_getElem om⟩
    obtain ⟨s,hs⟩:=hsi
    have hstep:=hq.at i o s (by simpa using ho) hs
    rw [Nat.zero_add] at hstep
    have hlsz:∀ j,listed.getD j false=true->listed.getD j true=true:=fun j h=>getD_true_of_false h
    have hbef:∀ j∈bfAt bf i,listed.getD j false=true:=fun j hj=>bf_listed hbf hI.down hlsz i i j o (Nat.le_refl _) ho hj hready
    have haft:∀ w,w<ops.size->i∈bfAt bf w->listed.getD w true=false:=fun v hv hiv=>by
     cases hq2:listed.getD v true with
     | false=>rfl
     | true =>
      have hov:ops[v]? = some ops[v]:=Array.getElem?_eq_getElem hv
      have:=bf_listed hbf hI.down hlsz v v i _ (Nat.le_refl _) hov hiv (fun e he hb=>hI.down v _ hov hq2 e he hb)
      rw [hlsz _ this] at hun; cases hun
    have hwsz:∀ c v,ws[c]? = some v->v<ops.size:=fun c v hc=>by
     have:=List.all_eq_true.1 hwr _ (List.mem_of_getElem? hc)
     simpa using this
    have hfr:FrDen Γ ρ (sgn sg k) N (rs (lexFr fr (ops.toList.take i) (ss.take i)) (o.looksAt ops)) a:=by
     refine ⟨hI.size,fun t x hx=>?_⟩
     obtain ⟨hmem,hx⟩:=fnd_rs _ _ _ _ hx
     rcases fnd_lex (fr:=fr) (uniq_take i hu) (by simp; omega) t (l:=ops.toList.take i) (ss:=ss.take i) with ⟨j,oj,sj,h1,h2,h3,h4⟩ | ⟨h1,h2⟩
     ·rw [h4] at hx; cases hx
      have hji:j<i:=by
       have:=(List.getElem?_eq_some_iff.1 h1).1
       simp at this; omega
      have hj:ops[j]? = some oj:=by
       rw [List.getElem?_take_of_lt hji] at h1; simpa using h1
      rw [List.getElem?_take_of_lt hji] at h2
      obtain ⟨e,he,he1,he2⟩:=(hpair j i oj o hji hj ho).1 t h3 hmem
      have hl:=hready e he he2
      rw [he1] at hl
      exact hI.new j oj _ t hj h2 (getD_true_of_false hl) h3
     ·rw [h2] at hx
      refine hI.old t x hx (fun j oj hj hdj=>?_)
      by_cases hji:j<i
      ·exact absurd hdj (h1 j oj (by rw [List.getElem?_take_of_lt hji]; simpa using hj))
      ·by_cases hje:j=i
       ·subst hje; exact hun
       ·obtain ⟨e,he,he1,he2⟩:=(hpair i j o oj om ho hj).2 t hdj hmem
        cases hq2:listed.getD j true with
        | false=>rfl
        | true =>
         have:=hI.down j oj hj hq2 e he he2
         rw [he1] at this
         rw [getD_true_of_false this] at hun
         cases hun
    have hU':(U.erase i).length<=fuel:=by
     rw [List.length_erase_of_mem (hUm i hil hun)]; omega
    have hUm':∀ j,j<ops.size->(listed.setIfInBounds i true).getD j true=false->j∈U.erase i:=fun j hj hj2=>by
     rw [getD_set listed i j (by rw [hI.lsize]; exact hil)] at hj2
     split at hj2
     ·cases hj2
     ·rename_i hne
      exact (List.mem_erase_of_ne hne).2 (hUm j hj hj2)
    unfold wpOpIn
    rw [ho]
    simp only []
    have hUset:∀ k',(∀ c v,ws[c]? = some v->((listed.getD v true=true\/v=i)↔c<k'))->k'<=ws.length->Upto (listed.setIfInBounds i true) ws k':=fun k' h hle=>by
     refine ⟨hle,fun c v hc=>?_⟩
     rw [<- h c v hc]
     by_cases e:v=i
     ·subst e
      have hsz:v<listed.size:=by rw [hI.lsize]; exact hil
      simp [hsz]
     ·have hsz:i<listed.size:=by rw [hI.lsize]; exact hil
      simp only [e,or_false]
      have:(listed.setIfInBounds i true).getD v true=listed.getD v true:=by
       simp only [Array.getD_eq_getD_getElem?,Array.getElem?_setIfInBounds]
       simp [Ne.symm e]
      rw [this]
    unfold SStep at hstep
    split at hstep
    ·
     rename_i c hc
     obtain ⟨_,hci⟩:=wIdx_spec hc
     simp only [Nat.sub_zero] at hci
     have hkc:k=c:=by
      refine Nat.le_antisymm (Nat.le_of_not_lt fun hlt=>?_) (Nat.le_of_not_lt fun hlt=>?_)
      ·have:=(hW.2 c i hci).2 hlt
       rw [this] at hun; cases hun
      ·have hkl:k<ws.length:=Nat.lt_trans hlt (List.getElem?_eq_some_iff.1 hci).1
       have h1:=List.getElem?_eq_getElem hkl
       have h2:=chain_spec hch k c i _ hlt h1 hci
       have:=hlsz _ (hbef _ h2)
       exact absurd ((hW.2 k _ h1).1 this) (Nat.lt_irrefl _)
     subst hkc
     have hkl:k<ws.length:=(List.getElem?_eq_some_iff.1 hci).1
     have hup:Upto (listed.setIfInBounds i true) ws (k + 1):=hUset (k + 1) (fun d v hd=>by
      rw [hW.2 d v hd]
      constructor
      ·rintro (h | rfl)
       ·omega
       ·
        refine Nat.lt_succ_of_le (Nat.le_of_not_lt fun hlt=>?_)
        have:=chain_spec hch k d _ _ hlt hci hd
        have:=hlsz _ (hbef _ this)
        rw [this] at hun; cases hun
      ·intro h
       by_cases hdk:d<k
       ·exact .inl hdk
       ·have:d=k:=om
        subst this
        rw [hci] at hd; cases hd
        exact .inr rfl) om
     rcases hstep with ⟨hg,hop⟩ | ⟨hg,f,args,hc1,hcall⟩
     rotate_left
     ·rw [gd_sound hfr hg,if_pos rfl]
      refine wp_of_call hc1 hcall hI.inv hfr ?_
      rintro v sv Γ' ρ' mem' nx' w' h1 h2 h3 h4 h5 h6 h7 h8 ⟨rfl,rfl,rfl⟩
      exact ih _ _ (k + 1) Γ' ρ' w' _ hU' hUm' (hI.stepTo hu hfitS ho hs hready h4 h7 h1 h5 h6 h2 h3) hup (hN.trans ⟨h4,h5,Env.same_mono hN.nx h6,Nat.le_trans hN.nx h7,h8⟩)
     rw [gd_sound hfr hg,if_pos rfl]
     obtain ⟨v,r,Γ',ρ',w',h1,h2,h3,h4,h5,h6,h7,h8,h9,h10⟩:=hop Γ ρ w a hI.inv hfr
     have hgo:=ih _ _ (k + 1) Γ' ρ' w' _ hU' hUm' (hI.stepTo hu hfitS ho hs hready h8 h7 h5 h9 h6 h3 h4) hup (hN.trans ⟨h8,h9,Env.same_mono hN.nx h6,Nat.le_trans hN.nx h7,h10⟩)
     refine ⟨fun _ _=>trivial,?_⟩
     rw [sem_round h1 h2]
     rcases h2 with rfl | ⟨rfl,rfl⟩
     ·exact hgo
     ·exact hgo
    ·rename_i hno
     have hnw:=wIdx_none hno
     have hmay:mayAt bf i k 0 ws=true:=mayAt_of fun c v hc=>by
      rw [Nat.zero_add]
      refine ⟨fun h=>(hW.2 c v hc).1 (hlsz _ (hbef _ h)),fun h=>Nat.le_of_not_lt fun hlt=>?_⟩
      have h1:=(hW.2 c v hc).2 hlt
      rw [haft v (hwsz c v hc) h] at h1; cases h1
     have hstep:=hstep k hW.1 hmay
     have hup:Upto (listed.setIfInBounds i true) ws k:=hUset k (fun c v hc=>by
      rw [<- hW.2 c v hc]
      have:=hnw v (List.mem_of_getElem? hc)
      simp [this]) hW.1
     rcases hstep with ⟨hg,rfl⟩ | ⟨hg,hstep⟩
     ·rw [gd_sound hfr hg,if_neg Bool.false_ne_true]
      refine ⟨fun _ _=>trivial,?_⟩
      have hu':=undef_den (Γ:=Γ) (ρ:=ρ) (n:=sgn sg k)
      exact ih _ _ k Γ ρ w _ hU' hUm' (hI.step hu hfitS ho hs hready (Stp.refl _ _ _) hI.inv (Gh.le_refl _) (Env.same_refl _ _) hu'.1 hu'.2) hup hN
     ·rw [gd_sound hfr hg,if_pos rfl]
      rcases hstep with hop | ⟨f,args,hc,hcall⟩
      ·obtain ⟨v,r,Γ',ρ',w',h1,h2,h3,h4,h5,h6,h7,h8,h9,h10⟩:=hop Γ ρ w a hI.inv hfr
       have hgo:=ih _ _ k Γ' ρ' w' _ hU' hUm' (hI.step hu hfitS ho hs hready h8 h5 h9 h6 h3 h4) hup (hN.trans ⟨h8,h9,Env.same_mono hN.nx h6,hN.nx,h10⟩)
       refine ⟨fun _ _=>trivial,?_⟩
       rw [sem_round h1 h2]
       rcases h2 with rfl | ⟨rfl,rfl⟩
       ·exact hgo
       ·exact hgo
      ·refine wp_of_call hc hcall hI.inv hfr ?_
       rintro v sv Γ' ρ' mem' nx' w' h1 h2 h3 h4 h5 h6 h7 h8 ⟨rfl,rfl,rfl⟩
       exact ih _ _ k Γ' ρ' w' _ hU' hUm' (hI.step hu hfitS ho hs hready h4 h1 h5 h6 h2 h3) hup (hN.trans ⟨h4,h5,Env.same_mono hN.nx h6,hN.nx,h8⟩)
 refine key ops.size (List.range ops.size) _ 0 Γ0 ρ0 w0.drew a0 (by simp) (fun j hj _=>by simpa using hj) ?_ ?_ ?_
 ·refine ⟨⟨hok.inv.pub,hok.inv.priv,hok.inv.inj⟩,hok.marks,hok.frame.size,fun t s ht _=>hok.frame.slot t s ht,fun j o s d hj _ hl _=>?_,fun j o hj hl=>?_,by simp⟩
  ·have:=(Array.getElem?_eq_some_iff.1 hj).1
   simp [this] at hl
  ·have:=(Array.getElem?_eq_some_iff.1 hj).1
   simp [this] at hl
 ·refine ⟨Nat.zero_le _,fun c v hc=>?_⟩
  have hv:v<ops.size:=by
   have:=List.all_eq_true.1 hwr _ (List.mem_of_getElem? hc)
   simpa using this
  simp [hv]
 ·exact ⟨⟨rfl,rfl,rfl,Nat.le_refl _,fun _ _ _=>rfl,fun b hb=>.inl hb⟩,Gh.le_refl _,Env.same_refl _ _,hn,fun _ hb=>.inl hb⟩
theorem SAll.congr:∀ {i:Nat} {l:List Oper} {ss:List SV} {fr fr':Fr},(∀ t,fnd fr t=fnd fr' t)->SAll P N ops sg ws bf i l ss fr->SAll P N ops sg ws bf i l ss fr'
 | _,[],[],_,_,_,_=>trivial
 | _,[],_ :: _,_,_,_,h=>h.elim
 | _,_ :: _,[],_,_,_,h=>h.elim
 | i,o :: l,s :: ss,fr,fr',hf,h=>by
  obtain ⟨h1,h2⟩:=h
  refine ⟨?_,SAll.congr (putO_congr hf o.dst s) h2⟩
  unfold SStep QStep at *
  rw [<- rs_congr hf]; exact h1
def SO (P:Program)(N:Nat)(ops:Array Oper)(sg:List (Mem×Nat))(ws:List Nat)(bf:List (Nat×List Nat))(i:Nat)(K:Fr->Prop)(fr:Fr):Prop :=
 ∃ ss fr2,SAll P N ops sg ws bf i (ops.toList.drop i) ss fr/\(∀ t s,fnd fr2 t=some s->fnd (lexFr fr (ops.toList.drop i) ss) t=some s)/\K fr2
theorem send {i:Nat}{K:Fr->Prop}{fr:Fr}(h:ops.toList.drop i=[])(hk:K fr):SO P N ops sg ws bf i K fr:=by
 refine ⟨[],fr,?_,?_,hk⟩
 ·rw [h]; trivial
 ·rw [h]; exact fun _ _ h=>h
theorem s_step {i:Nat}{o:Oper}{K:Fr->Prop}{fr:Fr}{sv:SV}(ho:ops.toList[i]? = some o)(hs:SStep P N ops sg ws bf fr i o sv)(h:SO P N ops sg ws bf (i + 1) K (putO fr o.dst sv)):SO P N ops sg ws bf i K fr:=by
 obtain ⟨ss,fr2,h1,h2,h3⟩:=h
 refine ⟨sv :: ss,fr2,?_,?_,h3⟩
 ·rw [drop_cons ho]; exact ⟨hs,h1⟩
 ·rw [drop_cons ho]; exact h2
theorem sreg (hm:P.follows .mixedOrders=true){id:Nat}{K:XE->St->Prop}{s:St}(sg:List (Mem×Nat))(ws:List Nat)(bf:List (Nat×List Nat))(hs:(s.mem,s.nx)=(sgm sg 0,sgn sg 0))(hd:drawOk N ops=true)(hbf:bfOk ops bf=true)(hch:chainOk bf ws=true)(hwr:ws.all (fun i=>Nat.blt i ops.size)=true)
  (h:SO P N ops sg ws bf 0 (fun fr2=>K .normal ⟨fr2,sgm sg ws.length,sgn sg ws.length⟩) s.fr):XW rd P N n0 (.region id ops true) K s:=by
 obtain ⟨ss,fr2,h1,h2,h3⟩:=h
 rw [List.drop_zero] at h1 h2
 obtain ⟨fr,mem,nx⟩:=s
 simp only [Prod.mk.injEq] at hs
 obtain ⟨rfl,rfl⟩:=hs
 exact xw_stage_core hm sg ws bf ss hd hbf hch hwr h1 h2 h3
def memless:Op->Bool
 | .binOp .eql _ _ _ _ | .binOp .neq _ _ _ _=>false
 | .move _ | .assign _ | .pick _ _ _ | .fieldAddr _ _ _ | .unOp _ _ _ | .binOp _ _ _ _ _ | .convert _ _ _ | .build _ _ | .makeFunc _ _ _ | .extract _ _ | .field _ _ _=>true
 | _=>false
theorem memless_any {fr:Fr}{o:Op}{q sv:SV}{mem':Mem}{nx':Nat}{k:Prop}(h:xop2 T fr mem nx o q=some (sv,mem',nx',k))(hq:memless o=true)(m:Mem)(n:Nat):xop2 T fr m n o q=some (sv,m,n,k):=by
 have fin:∀ {x y:SV} {m1 m2:Mem} {n1 n2:Nat} {p r:Prop},some (x,m1,n1,p)=some (y,m2,n2,r)->some (x,m,n,p)=some (y,m,n,r):=fun h=>by
  simp only [Option.some.injEq,Prod.mk.injEq] at h; rw [h.1,h.2.2.2]
 unfold xop2 at h ⊢
 split at h
 ·cases hq
 ·cases hq
 ·cases hq
 ·cases hq
 ·cases hq
 ·cases hq
 ·cases hq
 ·cases hq
 ·cases hq
 ·cases hq
 ·cases hq
 ·cases hq
 ·cases hq
 ·cases hq
 ·cases hq
 ·cases hq
 ·cases hq
 ·cases hq
 ·unfold xop1 at h ⊢
  cases o <;> first | (cases hq; done) | skip
  case move=>exact fin h
  case assign=>exact fin h
  case pick =>
   simp only [xpick] at h ⊢
   repeat' split at h
   all_goals first | (cases h; done) | (cases h; rfl) | (cases h; simp [*]; done)
  case fieldAddr =>
   simp only [xfieldAddr] at h ⊢
   repeat' split at h
   all_goals first | (cases h; done) | (cases h; rfl) | (cases h; simp [*]; done)
  case unOp =>
   rename_i op _ _ _ _ _ _ _ _ _ _ _ _ _ _ _ _ _ _ _ _
   cases op <;> first | (cases h; done) | skip
   simp only [xnot] at h ⊢
   repeat' split at h
   all_goals first | (cases h; done) | (cases h; rfl) | (cases h; simp [*]; done)
  case binOp =>
   simp only [xbinOp] at h ⊢
   repeat' split at h
   all_goals first | (cases h; done) | (cases h; rfl) | (cases h; simp [*]; done)
  case convert =>
   simp only [xconv] at h ⊢
   repeat' split at h
   all_goals first | (cases h; done) | (cases h; rfl) | (cases h; simp [*]; done)
  case build =>
   simp only [xbuild] at h ⊢
   repeat' split at h
   all_goals first | (cases h; done) | (cases h; rfl) | (cases h; simp [*]; done)
  case makeFunc =>
   rename_i f _ _ _ _ _ _ _ _ _ _ _ _ _ _ _ _ _ _ _ _
   cases f <;> first | (cases h; done) | exact fin h
  case extract =>
   simp only [xextract] at h ⊢
   repeat' split at h
   all_goals first | (cases h; done) | (cases h; rfl) | (cases h; simp [*]; done)
  case field =>
   simp only [xfield] at h ⊢
   repeat' split at h
   all_goals first | (cases h; done) | (cases h; rfl) | (cases h; simp [*]; done)
def quietA (fr:Fr)(o:Op)(q:SV):Bool:=match o,q with
 | .buildSlice _ _ _,.bool true=>true
 | .makeSlice _ _ _,.bool true=>true
 | o,_=>quietF fr o
theorem quietA_same {fr:Fr}{o:Op}{q sv:SV}{mem':Mem}{nx':Nat}{k:Prop}(h:xop2 T fr mem nx o q=some (sv,mem',nx',k))(hq:quietA fr o q=true):mem'=mem/\nx'=nx:=by
 unfold quietA at hq
 split at hq
 ·unfold xop2 xshare at h
  repeat' split at h
  all_goals first | (cases h; done) | (simp only [Option.some.injEq,Prod.mk.injEq] at h; exact ⟨h.2.1.symm,h.2.2.1.symm⟩) | (cases h; exact ⟨rfl,rfl⟩) | simp_all
 ·unfold xop2 xshare at h
  repeat' split at h
  all_goals first | (cases h; done) | (simp only [Option.some.injEq,Prod.mk.injEq] at h; exact ⟨h.2.1.symm,h.2.2.1.symm⟩) | (cases h; exact ⟨rfl,rfl⟩) | simp_all
 ·exact quiet_same h hq
def evs (T:Tab)(fr:Fr)(o:Op)(q:SV)(sg:List (Mem×Nat)):List Nat->Option (SV×List Prop)
 | []=>none
 | [k]=>match xop2 T fr (sgm sg k) (sgn sg k) o q with
  | some (sv,_,_,c)=>some (sv,[c])
  | none=>none
 | k :: l=>match xop2 T fr (sgm sg k) (sgn sg k) o q,evs T fr o q sg l with
  | some (sv,_,_,c),some (sv2,cs)=>some (sv,c :: (sv2=sv) :: cs)
  | _,_=>none
theorem evs_spec {fr:Fr}{o:Op}{q:SV} : ∀ {l:List Nat} {sv:SV} {cs:List Prop},evs T fr o q sg l=some (sv,cs)->All cs->∀ k∈l,∃ m n c,xop2 T fr (sgm sg k) (sgn sg k) o q=some (sv,m,n,c)/\c
 | [],_,_,h,_=>by simp [evs] at h
 | [k],sv,cs,h,hc=>by
  simp only [evs] at h
  split at h
  ·rename_i s m n c hx
   simp only [Option.some.injEq,Prod.mk.injEq] at h
   obtain ⟨rfl,rfl⟩:=h
   intro j hj
   simp at hj; subst hj
   exact ⟨m,n,c,hx,hc.1⟩
  ·cases h
 | k :: k2 :: l,sv,cs,h,hc=>by
  simp only [evs] at h
  split at h
  ·rename_i s m n c s2 cs2 hx hr
   simp only [Option.some.injEq,Prod.mk.injEq] at h
   obtain ⟨rfl,rfl⟩:=h
   obtain ⟨h1,h2,h3⟩:=hc
   subst h2
   intro j hj
   rcases List.mem_cons.1 hj with rfl | hj
   ·exact ⟨m,n,c,hx,h1⟩
   ·exact evs_spec hr h3 j hj
  ·cases h
def stagesOf (bf:List (Nat×List Nat))(ws:List Nat)(i:Nat):List Nat:=(List.range (ws.length + 1)).filter fun k=>mayAt bf i k 0 ws
def xsrun (T:Tab)(ops:Array Oper)(sg:List (Mem×Nat))(ws:List Nat)(bf:List (Nat×List Nat))(orc:List (Nat×SV)):Nat->Nat->Fr->Option (Fr×List Prop)
 | 0,_,fr=>some (fr,[])
 | n + 1,i,fr=>match ops.toList[i]? with
  | none=>none
  | some o=>match gd ops (rs fr (o.looksAt ops)) o.guard,wIdx i 0 ws with
   | some false,none=>xsrun T ops sg ws bf orc n (i + 1) (putO fr o.dst (.tup []))
   | some true,some c=>match xop2 T (rs fr (o.looksAt ops)) (sgm sg c) (sgn sg c) o.op (match fnd orc i with | some q=>q | none=>.junk) with
    | some (sv,mem',nx',k)=>match xsrun T ops sg ws bf orc n (i + 1) (putO fr o.dst sv) with
     | some (fr',ks)=>some (fr',k :: (mem'=sgm sg (c + 1)) :: (nx'=sgn sg (c + 1)) :: ks)
     | none=>none
    | none=>none
   | some true,none=>match quietA (rs fr (o.looksAt ops)) o.op (match fnd orc i with | some q=>q | none=>.junk) with
    | true=>match evs T (rs fr (o.looksAt ops)) o.op (match fnd orc i with | some q=>q | none=>.junk) sg (match memless o.op with | true=>[0] | false=>stagesOf bf ws i) with
     | some (sv,cs)=>match xsrun T ops sg ws bf orc n (i + 1) (putO fr o.dst sv) with
      | some (fr',ks)=>some (fr',cs++ks)
      | none=>none
     | none=>none
    | false=>none
   | _,_=>none
theorem srun (hT:TabOk P T)(orc:List (Nat×SV)):∀ (n i:Nat) {fr:Fr} (fr':Fr) (ks:List Prop) {K:Fr->Prop},xsrun T ops sg ws bf orc n i fr=some (fr',ks)->All ks->SO P N ops sg ws bf (i + n) K fr'->SO P N ops sg ws bf i K fr
 | 0,i,fr,fr',ks,K,h,_,hx=>by
  simp only [xsrun,Option.some.injEq,Prod.mk.injEq] at h
  obtain ⟨rfl,rfl⟩:=h
  exact hx
 | n + 1,i,fr,fr',ks,K,h,hk,hx=>by
  have hn:i + (n + 1)=i + 1 + n:=om
  rw [hn] at hx
  simp only [xsrun] at h
  split at h
  ·cases h
  ·rename_i o ho
   split at h
   ·rename_i hg hw
    refine s_step ho ?_ (srun hT orc n (i + 1) _ ks h hk hx)
    unfold SStep
    rw [hw]
    exact fun k _ _=>.inl ⟨hg,rfl⟩
   ·rename_i c hg hw
    split at h
    ·rename_i sv mem' nx' k hop
     split at h
     ·rename_i fr1 ks1 hr
      simp only [Option.some.injEq,Prod.mk.injEq] at h
      obtain ⟨rfl,rfl⟩:=h
      obtain ⟨h1,h2,h3,h4⟩:=hk
      refine s_step ho ?_ (srun hT orc n (i + 1) _ ks1 hr h4 hx)
      unfold SStep
      rw [hw]
      refine .inl ⟨hg,?_⟩
      have:=xop2_sound (N:=N) hT hop h1
      rwa [h2,h3] at this
     ·cases h
    ·cases h
   ·rename_i hg hw
    split at h
    ·rename_i hqa
     split at h
     ·rename_i sv cs hev
      split at h
      ·rename_i fr1 ks1 hr
       simp only [Option.some.injEq,Prod.mk.injEq] at h
       obtain ⟨rfl,rfl⟩:=h
       obtain ⟨h1,h2⟩:=hk.append
       refine s_step ho ?_ (srun hT orc n (i + 1) _ ks1 hr h2 hx)
       unfold SStep
       rw [hw]
       intro k hk1 hk2
       refine .inr ⟨hg,.inl ?_⟩
       have key:∃ c,xop2 T (rs fr (o.looksAt ops)) (sgm sg k) (sgn sg k) o.op (match fnd orc i with | some q=>q | none=>.junk)=some (sv,sgm sg k,sgn sg k,c)/\c:=by
        cases hml:memless o.op with
        | true =>
         rw [hml] at hev
         obtain ⟨m,n2,c,g1,g2⟩:=evs_spec hev h1 0 (by simp)
         exact ⟨c,memless_any g1 hml _ _,g2⟩
        | false =>
         rw [hml] at hev
         obtain ⟨m,n2,c,g1,g2⟩:=evs_spec hev h1 k (by
          unfold stagesOf
          rw [List.mem_filter]
          exact ⟨by simp; omega,hk2⟩)
         obtain ⟨e1,e2⟩:=quietA_same g1 hqa
         rw [e1,e2] at g1
         exact ⟨c,g1,g2⟩
       obtain ⟨c,g1,g2⟩:=key
       exact xop2_sound hT g1 g2
      ·cases h
     ·cases h
    ·cases h
   ·cases h
theorem scallw {i:Nat}{K:Fr->Prop}{fr:Fr}{f:Nat}{args:List SV}{d:Option Nat}{sv:SV}(c:Nat){m:Mem}{n:Nat}{m':Mem}{n':Nat}(h:qcallAt ops fr i=some (f,args,d))(hno:wIdx i 0 ws=some c)(e1:(sgm sg c,sgn sg c)=(m,n))(e2:(sgm sg (c + 1),sgn sg (c + 1))=(m',n'))
  (hp:XCall P f args m n fun s m2 n2=>s=sv/\m2=m'/\n2=n')
  (hk:SO P N ops sg ws bf (i + 1) K (putO fr d sv)):SO P N ops sg ws bf i K fr:=by
 unfold qcallAt at h
 cases e1; cases e2
 split at h
 ·rename_i o ho
  split at h
  ·rename_i f' args2 hg hca
   simp only [Option.some.injEq,Prod.mk.injEq] at h
   obtain ⟨rfl,rfl,rfl⟩:=h
   refine s_step ho ?_ hk
   unfold SStep
   rw [hno]
   exact .inr ⟨hg,f',args2,hca,hp⟩
  ·cases h
 ·cases h
end
def ix (xs:List Int)(n:Int):Int:=xs.getD n.toNat 0
def st (xs:List Int)(n v:Int):List Int:=xs.set n.toNat v
def U64s (xs:List Int):Prop:=∀ v∈xs,0<=v/\v<=18446744073709551615
def I64s (xs:List Int):Prop:=∀ v∈xs,-9223372036854775808<=v/\v<=9223372036854775807
theorem U64s.ix {xs:List Int}(h:U64s xs)(n:Int):0<=ix xs n/\ix xs n<=18446744073709551615:=by
 unfold X.ix
 rw [List.getD_eq_getElem?_getD]
 by_cases hn:n.toNat<xs.length
 ·rw [List.getElem?_eq_getElem hn]; exact h _ (List.getElem_mem hn)
 ·rw [List.getElem?_eq_none om]; simp
theorem I64s.ix {xs:List Int}(h:I64s xs)(n:Int) : -9223372036854775808<=ix xs n/\ix xs n<=9223372036854775807:=by
 unfold X.ix
 rw [List.getD_eq_getElem?_getD]
 by_cases hn:n.toNat<xs.length
 ·rw [List.getElem?_eq_getElem hn]; exact h _ (List.getElem_mem hn)
 ·rw [List.getElem?_eq_none om]; simp
theorem U64s.st {xs:List Int}(h:U64s xs)(n:Int){v:Int}(hv:0<=v/\v<=18446744073709551615):U64s (st xs n v):=fun x hx=>by
 rcases List.mem_or_eq_of_mem_set hx with h1 | rfl
 ·exact h x h1
 ·exact hv
theorem U64s.nil:U64s []:=fun _ h=>by cases h
theorem U64s.cons {v:Int}{xs:List Int}(hv:0<=v/\v<=18446744073709551615)(h:U64s xs):U64s (v :: xs):=fun x hx=>by
 rcases List.mem_cons.1 hx with rfl | hx
 ·exact hv
 ·exact h x hx
theorem U64s.append {xs ys:List Int}(h:U64s xs)(h':U64s ys):U64s (xs++ys):=fun x hx=>by
 rcases List.mem_append.1 hx with hx | hx
 ·exact h x hx
 ·exact h' x hx
theorem U64s.rep (n:Nat):U64s (List.replicate n 0):=fun x hx=>by
 have:=List.eq_of_mem_replicate hx; omega
theorem U64s.take {xs:List Int}(h:U64s xs)(n:Nat):U64s (xs.take n):=fun x hx=>h x (List.mem_of_mem_take hx)
theorem U64s.drop {xs:List Int}(h:U64s xs)(n:Nat):U64s (xs.drop n):=fun x hx=>h x (List.mem_of_mem_drop hx)
theorem len_st (xs:List Int)(n v:Int):(st xs n v).length=xs.length:=by simp [st]
theorem ix_same {xs:List Int}{n m:Int}(v:Int)(h0:0<=n)(h1:n<(xs.length:Int))(e:m=n):ix (st xs n v) m=v:=by
 subst e
 unfold ix st
 have:m.toNat<xs.length:=om
 simp [this]
theorem ix_other {xs:List Int}{n m:Int}(v:Int)(h0:0<=n)(h2:0<=m)(e:m≠n):ix (st xs n v) m=ix xs m:=by
 unfold ix st
 have:n.toNat≠m.toNat:=om
 simp [List.getElem?_set_ne this]
theorem or_eq2 {a q b:Int}(k:Nat)(m:Int)(hm:m=((2 ^ k:Nat):Int))(ha:a=q * m)(hq:0<=q)(hb:0<=b)(hbk:b<m)(hr:a + b<=18446744073709551615):IntKind.u64.wrap (BitVec.ofInt 64 a ||| BitVec.ofInt 64 b).toNat=a + b:=by
 subst ha; exact or_eq k m hm hq hb hbk hr
theorem shr_le {a:Int}{n:Nat}(h:0<=a):0<=a.fdiv (2 ^ n)/\a.fdiv (2 ^ n)<=a:=by
 have hp:(0:Int)<2 ^ n:=Int.pow_pos (by decide)
 rw [Int.fdiv_eq_ediv_of_nonneg _ (Int.le_of_lt hp)]
 exact ⟨Int.ediv_nonneg h (Int.le_of_lt hp),Int.ediv_le_self _ h⟩
theorem ix_ok {k:IntKind}{xs:List Int}{n:Int}(h0:0<=n)(h1:n<(xs.length:Int)):0<=n/\n<((xs.map (SV.int k)).length:Int)/\(xs.map (SV.int k))[n.toNat]? = some (.int k (ix xs n)):=by
 have h2:n.toNat<xs.length:=om
 refine ⟨h0,by simpa using h1,?_⟩
 unfold ix
 simp [h2]
theorem elem_map {k:IntKind}{xs:List Int} : ∀ y∈xs.map (SV.int k),ElemOk y:=by
 intro y hy
 obtain ⟨n,_,rfl⟩:=List.mem_map.1 hy
 rfl
theorem ne_map {k:IntKind}{xs:List Int}(h:0<(xs.length:Int)):xs.map (SV.int k)≠[]:=by
 intro e
 have:=congrArg List.length e
 simp at this; subst this; simp at h
theorem set_map {k:IntKind}{xs:List Int}{n v:Int} : (xs.map (SV.int k)).set n.toNat (.int k v)=(st xs n v).map (SV.int k):=by
 simp [st,List.map_set]
theorem append_map {k:IntKind}{xs ys:List Int} : xs.map (SV.int k)++ys.map (SV.int k)=(xs++ys).map (SV.int k):=by simp
theorem rep_map {k:IntKind}{n:Nat}{v:Int} : List.replicate n (SV.int k v)=(List.replicate n v).map (SV.int k):=by simp
section
variable {rd:Option Nat} {P:Program} {N n0:Nat} {ops:Array Oper} {mem:Mem} {nx:Nat}
theorem seti {i:Nat}{K:St->Prop}{s:St}(d:Nat){k:IntKind}{x y:Int}(hd:fnd s.fr d=some (.int k x))(e:x=y)(h:XOi rd P N n0 ops i K ⟨(d,.int k y) :: s.fr,s.mem,s.nx⟩):XOi rd P N n0 ops i K s:=by
 subst e
 refine xo_le (s':=⟨(d,.int k x) :: s.fr,s.mem,s.nx⟩) (fun Γ ρ w a hn hok=>⟨ρ,Env.same_refl _ _,hn,⟨hok.inv,hok.marks,hok.frame.size,fun t v hv=>?_⟩,fun _ h=>h⟩) h
 rw [fnd_cons] at hv
 split at hv
 ·rename_i e; subst e; cases hv; exact hok.frame.slot d _ hd
 ·exact hok.frame.slot t v hv
theorem qinl {i:Nat}{K:Fr->Prop}{fr:Fr}{f:Nat}{args:List SV}{d:Option Nat}{sv:SV}(h:qcallAt ops fr i=some (f,args,d))(hc:XCall P f args mem nx (fun s m n=>s=sv/\m=mem/\n=nx))
  (hk:QOi P N ops mem nx (i + 1) K (putO fr d sv)):QOi P N ops mem nx i K fr:=by
 unfold qcallAt at h
 split at h
 ·rename_i o ho
  split at h
  ·rename_i f' args2 hg hca
   simp only [Option.some.injEq,Prod.mk.injEq] at h
   obtain ⟨rfl,rfl,rfl⟩:=h
   unfold QOi
   rw [drop_cons ho]
   exact q_callx hg hca hc hk
  ·cases h
 ·cases h
end
def ldw (xs ys:List Int)(a:Int):Int:=if a / 4294967296=1 then ix xs (a % 4294967296) else ix ys (a % 4294967296)
def stx (xs:List Int)(a v:Int):List Int:=if a / 4294967296=1 then st xs (a % 4294967296) v else xs
def sty (ys:List Int)(a v:Int):List Int:=if a / 4294967296=1 then ys else st ys (a % 4294967296) v
theorem ldw_1 {xs ys:List Int}{a:Int}(h:a / 4294967296=1):ldw xs ys a=ix xs (a % 4294967296):=by unfold ldw; rw [if_pos h]
theorem ldw_2 {xs ys:List Int}{a:Int}(h:a / 4294967296≠1):ldw xs ys a=ix ys (a % 4294967296):=by unfold ldw; rw [if_neg h]
theorem stx_1 {xs:List Int}{a v:Int}(h:a / 4294967296=1):stx xs a v=st xs (a % 4294967296) v:=by unfold stx; rw [if_pos h]
theorem stx_2 {xs:List Int}{a v:Int}(h:a / 4294967296≠1):stx xs a v=xs:=by unfold stx; rw [if_neg h]
theorem sty_1 {xs:List Int}{a v:Int}(h:a / 4294967296=1):sty xs a v=xs:=by unfold sty; rw [if_pos h]
theorem sty_2 {xs:List Int}{a v:Int}(h:a / 4294967296≠1):sty xs a v=st xs (a % 4294967296) v:=by unfold sty; rw [if_neg h]
theorem len_stx (xs:List Int)(a v:Int):(stx xs a v).length=xs.length:=by unfold stx; split <;> simp [st]
theorem len_sty (xs:List Int)(a v:Int):(sty xs a v).length=xs.length:=by unfold sty; split <;> simp [st]
theorem U64s.stx {xs:List Int}(h:U64s xs)(a:Int){v:Int}(hv:0<=v/\v<=18446744073709551615):U64s (stx xs a v):=by unfold X.stx; split; exact h.st _ hv; exact h
theorem U64s.sty {xs:List Int}(h:U64s xs)(a:Int){v:Int}(hv:0<=v/\v<=18446744073709551615):U64s (sty xs a v):=by unfold X.sty; split; exact h; exact h.st _ hv
theorem U64s.ldw {xs ys:List Int}(h:U64s xs)(k:U64s ys)(a:Int):0<=ldw xs ys a/\ldw xs ys a<=18446744073709551615:=by unfold X.ldw; split; exact h.ix _; exact k.ix _
theorem ldw_same {xs ys:List Int}{a b:Int}(v:Int)(h1:1<=a / 4294967296/\a / 4294967296<=2)(hx:a % 4294967296<(xs.length:Int))(hy:a % 4294967296<(ys.length:Int))(e:b=a):ldw (stx xs a v) (sty ys a v) b=v:=by
 subst e
 by_cases h:b / 4294967296=1
 ·rw [ldw_1 h,stx_1 h,ix_same v om hx rfl]
 ·rw [ldw_2 h,sty_2 h,ix_same v om hy rfl]
theorem ldw_other {xs ys:List Int}{a b:Int}(v:Int)(ha:1<=a / 4294967296/\a / 4294967296<=2)(hb:1<=b / 4294967296/\b / 4294967296<=2)(e:b≠a):ldw (stx xs a v) (sty ys a v) b=ldw xs ys b:=by
 by_cases h:a / 4294967296=1
 ·rw [stx_1 h,sty_1 h]
  by_cases k:b / 4294967296=1
  ·rw [ldw_1 k,ldw_1 k,ix_other v om om om]
  ·rw [ldw_2 k,ldw_2 k]
 ·rw [stx_2 h,sty_2 h]
  by_cases k:b / 4294967296=1
  ·rw [ldw_1 k,ldw_1 k]
  ·rw [ldw_2 k,ldw_2 k,ix_other v om om om]
def zx (xs:List Int)(a:Int):Nat->List Int
 | 0=>xs
 | k + 1=>stx (zx xs a k) (a + ((k:Int) + 1)) 0
def zy (ys:List Int)(a:Int):Nat->List Int
 | 0=>ys
 | k + 1=>sty (zy ys a k) (a + ((k:Int) + 1)) 0
theorem len_zx (xs:List Int)(a:Int):∀ k,(zx xs a k).length=xs.length
 | 0=>rfl
 | k + 1=>by simp only [zx,len_stx]; exact len_zx xs a k
theorem len_zy (xs:List Int)(a:Int):∀ k,(zy xs a k).length=xs.length
 | 0=>rfl
 | k + 1=>by simp only [zy,len_sty]; exact len_zy xs a k
theorem U64s.zx {xs:List Int}(h:U64s xs)(a:Int):∀ k,U64s (zx xs a k)
 | 0=>h
 | k + 1=>(U64s.zx h a k).stx _ om
theorem U64s.zy {xs:List Int}(h:U64s xs)(a:Int):∀ k,U64s (zy xs a k)
 | 0=>h
 | k + 1=>(U64s.zy h a k).sty _ om
theorem ldw_zxo {xs ys:List Int}{a b:Int}(hb:1<=b / 4294967296/\b / 4294967296<=2):∀ {k:Nat},1<=a / 4294967296/\(a + k) / 4294967296<=2->(b<=a\/a + k<b)->ldw (zx xs a k) (zy ys a k) b=ldw xs ys b
 | 0,_,_=>rfl
 | k + 1,ha,h=>by
  simp only [zx,zy]
  rw [ldw_other 0 om hb om]
  exact ldw_zxo hb om om
theorem ldw_zxi {xs ys:List Int}{a b:Int}{W:Int}(hx:(xs.length:Int)=W)(hy:(ys.length:Int)=W):∀ {k:Nat},1<=a / 4294967296->a / 4294967296<=2->a % 4294967296 + k<W->W<=4294967296->a<b->b<=a + k->ldw (zx xs a k) (zy ys a k) b=0
 | 0,_,_,_,_,_,_=>by omega
 | k + 1,h1,h2,h3,h4,h5,h6=>by
  simp only [zx,zy]
  by_cases e:b=a + ((k:Int) + 1)
  ·rw [ldw_same 0 om (by rw [len_zx]; omega) (by rw [len_zy]; omega) e]
  ·rw [ldw_other 0 om om e]
   exact ldw_zxi hx hy h1 h2 om h4 h5 om
section
variable {rd:Option Nat} {P:Program} {N n0:Nat}
def UL (rd:Option Nat)(P:Program)(N n0:Nat)(c:Code)(K:XE->St->Prop):Nat->St->Prop
 | 0,_=>False
 | n + 1,s=>XW rd P N n0 c (fun e s'=>match e with | .normal=>UL rd P N n0 c K n s' | e=>K e s') s
def AgU (rd:Option Nat)(P:Program)(N n0:Nat)(c:Code)(K:XE->St->Prop)(n:Nat):XE->St->Prop
 | .normal,s=>UL rd P N n0 c K n s
 | e,s=>K e s
theorem ul_step {c:Code}{K:XE->St->Prop}{n:Nat}{s:St}(h:XW rd P N n0 c (AgU rd P N n0 c K n) s):UL rd P N n0 c K (n + 1) s :=
 xw_mono h fun e s' h=>by cases e <;> exact h
theorem xw_unroll {c:Code}{K:XE->St->Prop}{s:St}(n:Nat)(h:UL rd P N n0 c K n s):XW rd P N n0 (.loop c) K s:=by
 intro Γ ρ w a hn hok
 refine wp_loop_ix (α:={p:Nat×St // UL rd P N n0 c K p.1 p.2}) (fun x a' w'=>∃ Γ' ρ',Ok Γ' ρ' N x.1.2 w' a'/\Nxt n0 Γ ρ s w Γ' ρ' x.1.2 w') (fun x=>x.1.1) (x0:=⟨(n,s),h⟩) ?_ ?_
 ·exact ⟨Γ,ρ,hok,Nxt.refl _ _ _ _ hn⟩
 ·rintro ⟨⟨m,t⟩,hx⟩ a' w' ⟨Γ',ρ',hok',hnx⟩
  cases m with
  | zero=>exact absurd hx (by simp [UL])
  | succ m =>
   refine wpIn_mono ((show XW rd P N n0 c _ t from hx) Γ' ρ' w' a' hnx.nx hok') ?_
   rintro e a₂ w₂ ⟨xe,Γ₂,ρ₂,s₂,rfl,h2,h3,h4⟩
   cases xe with
   | normal=>exact ⟨⟨(m,s₂),h4⟩,⟨Γ₂,ρ₂,h2,hnx.trans h3⟩,Nat.lt_succ_self m⟩
   | exit i=>exact ⟨.exit i,Γ₂,ρ₂,s₂,rfl,h2,hnx.trans h3,h4⟩
   | goto l=>exact ⟨.goto l,Γ₂,ρ₂,s₂,rfl,h2,hnx.trans h3,h4⟩
   | ret=>exact ⟨.ret,Γ₂,ρ₂,s₂,rfl,h2,hnx.trans h3,h4⟩
def UJ (rd:Option Nat)(P:Program)(N n0:Nat)(l:Nat)(c:Code)(K:XE->St->Prop):Nat->St->Prop
 | 0,_=>False
 | n + 1,s=>XW rd P N n0 c (fun e s'=>match e with | .goto l'=>l'=l/\UJ rd P N n0 l c K n s' | e=>K e s') s
def JuU (rd:Option Nat)(P:Program)(N n0:Nat)(l:Nat)(c:Code)(K:XE->St->Prop)(n:Nat):XE->St->Prop
 | .goto l',s=>l'=l/\UJ rd P N n0 l c K n s
 | e,s=>K e s
theorem uj_step {l:Nat}{c:Code}{K:XE->St->Prop}{n:Nat}{s:St}(h:XW rd P N n0 c (JuU rd P N n0 l c K n) s):UJ rd P N n0 l c K (n + 1) s :=
 xw_mono h fun e s' h=>by cases e <;> exact h
theorem xw_scope_u {c rest:Code}{K:XE->St->Prop}{s:St}(l n:Nat)(hf:findLabel c l=some rest)(h:XW none P N n0 c (JuU none P N n0 l rest K n) s):XW none P N n0 (.scope c) K s:=by
 intro Γ ρ w a hn hok
 refine (wpIn_wide (n:=0)).2 (wp_scope_ix l (α:={p:Nat×St // UJ none P N n0 l rest K p.1 p.2}) (fun x a' w'=>∃ Γ' ρ',Ok Γ' ρ' N x.1.2 w' a'/\Nxt n0 Γ ρ s w Γ' ρ' x.1.2 w') (fun x=>x.1.1) hf ?_ ?_)
 ·refine wp_mono ((wpIn_wide (n:=0)).1 (h Γ ρ w a hn hok)) ?_
  rintro e a₂ w₂ ⟨xe,Γ₂,ρ₂,s₂,rfl,h2,h3,h4⟩
  cases xe with
  | normal=>exact ⟨.normal,Γ₂,ρ₂,s₂,rfl,h2,h3,h4⟩
  | exit i=>exact ⟨.exit i,Γ₂,ρ₂,s₂,rfl,h2,h3,h4⟩
  | goto l'=>exact ⟨h4.1,⟨(n,s₂),h4.2⟩,Γ₂,ρ₂,h2,h3⟩
  | ret=>exact ⟨.ret,Γ₂,ρ₂,s₂,rfl,h2,h3,h4⟩
 ·rintro ⟨⟨m,t⟩,hx⟩ a' w' ⟨Γ',ρ',hok',hnx⟩
  cases m with
  | zero=>exact absurd hx (by simp [UJ])
  | succ m =>
   refine wp_mono ((wpIn_wide (n:=0)).1 ((show XW none P N n0 rest _ t from hx) Γ' ρ' w' a' hnx.nx hok')) ?_
   rintro e a₂ w₂ ⟨xe,Γ₂,ρ₂,s₂,rfl,h2,h3,h4⟩
   cases xe with
   | normal=>exact ⟨.normal,Γ₂,ρ₂,s₂,rfl,h2,hnx.trans h3,h4⟩
   | exit i=>exact ⟨.exit i,Γ₂,ρ₂,s₂,rfl,h2,hnx.trans h3,h4⟩
   | goto l'=>exact ⟨h4.1,⟨(m,s₂),h4.2⟩,⟨Γ₂,ρ₂,h2,hnx.trans h3⟩,Nat.lt_succ_self m⟩
   | ret=>exact ⟨.ret,Γ₂,ρ₂,s₂,rfl,h2,hnx.trans h3,h4⟩
section
variable {c:Code} {K:XE->St->Prop} {n l i:Nat} {s:St}
theorem agu (h:UL rd P N n0 c K n s):AgU rd P N n0 c K n .normal s:=h
theorem agu_exit (h:K (.exit i) s):AgU rd P N n0 c K n (.exit i) s:=h
theorem juu (h:UJ rd P N n0 l c K n s):JuU rd P N n0 l c K n (.goto l) s:=⟨rfl,h⟩
theorem juu_ret (h:K .ret s):JuU rd P N n0 l c K n .ret s:=h
end
theorem xw_le' {c:Code}{K:XE->St->Prop}{s s':St}(h:Le N n0 s s')(hx:XW rd P N n0 c K s'):XW rd P N n0 c K s:=fun Γ ρ w a hn hok=>by
 obtain ⟨ρ',h1,h2,h3,h4⟩:=h Γ ρ w a hn hok
 exact wpIn_mono (hx Γ ρ' w a h2 h3) fun _ _ _ q=>q.weaken (Le.nxt h1 h2 h4)
theorem xw_nilrow {c:Code}{K:XE->St->Prop}{s:St}(d z E:Nat)(h:fnd s.fr d=some .nils)(hx:XW rd P N n0 c K ⟨(d,.own s.nx) :: s.fr,(s.nx,.row z E []) :: s.mem,s.nx + 1⟩):XW rd P N n0 c K s:=xw_le' (le_nilRow d z E h) hx
section
variable {ops:Array Oper}
theorem setr {i:Nat}{K:St->Prop}{s:St}(r:Nat){z E:Nat}{L L':List SV}(hd:fnd s.mem r=some (.row z E L))(e:L=L')(h:XOi rd P N n0 ops i K ⟨s.fr,upd s.mem r (.row z E L'),s.nx⟩):XOi rd P N n0 ops i K s:=by
 subst e
 have hsame:∀ t,fnd (upd s.mem r (.row z E L)) t=fnd s.mem t:=fun t=>by
  rw [fnd_upd s.mem r t _ (by rw [hd]; rfl)]
  split
  ·rename_i e; subst e; exact hd.symm
  ·rfl
 refine xo_le (s':=⟨s.fr,upd s.mem r (.row z E L),s.nx⟩) (fun Γ ρ w a hn hok=>⟨ρ,Env.same_refl _ _,hn,⟨⟨hok.inv.pub,fun t B h=>?_,fun t t' b B B' h h'=>?_⟩,hok.marks,hok.frame⟩,?_⟩) h
 ·rw [hsame] at h; exact hok.inv.priv t B h
 ·rw [hsame] at h h'; exact hok.inv.inj t t' b B B' h h'
 ·rintro b ⟨t,B,h,hb⟩
  rw [hsame] at h; exact ⟨t,B,h,hb⟩
theorem sets {i:Nat}{K:St->Prop}{s:St}(d:Nat){x:Bool}{z:Nat}{L L':List SV}(hd:fnd s.fr d=some (.sl x z L))(e:L=L')(h:XOi rd P N n0 ops i K ⟨(d,.sl x z L') :: s.fr,s.mem,s.nx⟩):XOi rd P N n0 ops i K s:=by
 subst e
 refine xo_le (s':=⟨(d,.sl x z L) :: s.fr,s.mem,s.nx⟩) (fun Γ ρ w a hn hok=>⟨ρ,Env.same_refl _ _,hn,⟨hok.inv,hok.marks,hok.frame.size,fun t v hv=>?_⟩,fun _ h=>h⟩) h
 rw [fnd_cons] at hv
 split at hv
 ·rename_i e; subst e; cases hv; exact hok.frame.slot d _ hd
 ·exact hok.frame.slot t v hv
end
theorem pcall0 {ops:Array Oper}{i:Nat}{K:St->Prop}{s:St}{f:Nat}{args:List SV}{d:Option Nat}{sv:SV}(hp:Pub P f args (fun t=>t=sv))(h:callAt N ops s.fr i=some (f,args,d))(hb:bdL 0 args=true)
  (hk:XOi rd P N n0 ops (i + 1) K ⟨putO s.fr d sv,s.mem,s.nx⟩):XOi rd P N n0 ops i K s:=callx h (xcall_pub hp (WkL.refl args) hb (fun _ e=>by rw [e]; exact hk))
theorem pqcall0 {ops:Array Oper}{mem:Mem}{nx:Nat}{i:Nat}{K:Fr->Prop}{fr:Fr}{f:Nat}{args:List SV}{d:Option Nat}{sv:SV}(hp:Pub P f args (fun t=>t=sv))(h:qcallAt ops fr i=some (f,args,d))(hb:bdL 0 args=true)
  (hk:QOi P N ops mem nx (i + 1) K (putO fr d sv)):QOi P N ops mem nx i K fr:=by
 unfold qcallAt at h
 split at h
 ·rename_i o ho
  split at h
  ·rename_i f' args' hg hca
   simp only [Option.some.injEq,Prod.mk.injEq] at h
   obtain ⟨rfl,rfl,rfl⟩:=h
   unfold QOi
   rw [drop_cons ho]
   exact q_callx hg hca (xcall_pub hp (WkL.refl _) hb (fun _ hs=>⟨hs,rfl,rfl⟩)) hk
  ·cases h
 ·cases h
theorem scall0 {ops:Array Oper}{sg:List (Mem×Nat)}{ws:List Nat}{bf:List (Nat×List Nat)}{i:Nat}{K:Fr->Prop}{fr:Fr}{f:Nat}{args:List SV}{d:Option Nat}{sv:SV}(hp:Pub P f args (fun t=>t=sv))(h:qcallAt ops fr i=some (f,args,d))(hno:wIdx i 0 ws=none)(hb:bdL 0 args=true)
  (hk:SO P N ops sg ws bf (i + 1) K (putO fr d sv)):SO P N ops sg ws bf i K fr:=by
 unfold qcallAt at h
 split at h
 ·rename_i o ho
  split at h
  ·rename_i f' args2 hg hca
   simp only [Option.some.injEq,Prod.mk.injEq] at h
   obtain ⟨rfl,rfl,rfl⟩:=h
   refine s_step ho ?_ hk
   unfold SStep
   rw [hno]
   exact fun k _ _=>.inr ⟨hg,.inr ⟨f',args2,hca,xcall_pub hp (WkL.refl _) hb (fun _ hs=>⟨hs,rfl,rfl⟩)⟩⟩
  ·cases h
 ·cases h
abbrev hT (xs ys:List Int)(a:Int):Int:=ldw xs ys a / 72057594037927936
abbrev hL (xs ys:List Int)(a:Int):Int:=(ldw xs ys a / 4294967296) % 16777216
abbrev hM (xs ys:List Int)(a:Int):Int:=ldw xs ys a % 4294967296
abbrev m64 (xs:List Int):List SV:=List.map (SV.int .u64) xs
abbrev mm (W:Int)(xs ys:List Int):List SV:=[.int .i64 W,.sl false 1 (m64 xs),.sl false 1 (m64 ys)]
abbrev mr (W:Int)(xs ys:List Int)(l:List SV):List SV:=.int .i64 W :: .sl false 1 (m64 xs) :: .sl false 1 (m64 ys) :: l
theorem ssets {ops:Array Oper}{sg:List (Mem×Nat)}{ws:List Nat}{bf:List (Nat×List Nat)}{i:Nat}{K:Fr->Prop}{fr:Fr}(d:Nat){x:Bool}{z:Nat}{L L':List SV}(hd:fnd fr d=some (.sl x z L))(e:L=L')(h:SO P N ops sg ws bf i K ((d,.sl x z L') :: fr)):SO P N ops sg ws bf i K fr:=by
 subst e
 obtain ⟨ss,fr2,h1,h2,h3⟩:=h
 have hsame:∀ t,fnd ((d,.sl x z L) :: fr) t=fnd fr t:=fun t=>by
  rw [fnd_cons]
  split
  ·rename_i e; subst e; exact hd.symm
  ·rfl
 exact ⟨ss,fr2,h1.congr hsame,fun t s h=>by rw [<- lexFr_congr _ ss hsame t]; exact h2 t s h,h3⟩
theorem nil_app {L:List SV} : []++L=L:=rfl
theorem app_one {k:IntKind}{xs:List Int}{v:Int} : xs.map (SV.int k)++[SV.int k v]=(xs++[v]).map (SV.int k):=by simp
end
abbrev SV.i (n:Int):SV:=.int .i64 n
abbrev SV.u (n:Int):SV:=.int .u64 n
abbrev SV.p (r:Nat):SV:=.loc r 0
abbrev SV.t:SV:=.bool true
abbrev SV.f:SV:=.bool false
abbrev r5 (s b l p q:Int):List SV:=[.int .i64 s,.int .i64 b,.int .i64 l,.int .i64 p,.int .i64 q]
abbrev z8:List SV:=[.int .i64 0,.nils,.nils,.int .i64 0,.int .i64 0,.int .i64 0,.int .i64 0,.int .i64 0]
abbrev I6 (x:Int):Prop:=-9223372036854775808<=x/\x<=9223372036854775807
abbrev U6 (x:Int):Prop:=0<=x/\x<=18446744073709551615
theorem om {p:Prop}(h:p:=by omega):p:=h
theorem kr {p:Prop}(h:p:=by kernel_rfl):p:=h
theorem nk {a b:Nat}(h:Nat.ble a b=true:=by kernel_rfl):a<=b:=Nat.le_of_ble_eq_true h
theorem lw {p:Prop}(h:p:=by first | omega | (simp only [len_st]; omega) | (simp; done) | (simp; omega) | (simp [len_st,len_stx,len_sty,len_zx,len_zy]; omega)):p:=h
theorem pq {p:Prop}(h:p:=by first | omega | assumption | rfl | (rw [len_zx]; assumption) | (rw [len_zy]; assumption) | exact U64s.zx (by assumption) _ _ | exact U64s.zy (by assumption) _ _ | exact U64s.rep _ | decide | (simp; done)):p:=h
theorem rq {p:Prop}(h:p:=by first | assumption | exact U64s.st (by assumption) _ om):p:=h
theorem sq {p:Prop}(h:p:=by simp):p:=h
theorem dm {p:Prop}(h:p:=by first | omega | (dsimp only; omega)):p:=h
abbrev tr:Pf:=⟨True,trivial⟩
abbrev sf {α:Sort _}(a:α):Pf:=⟨a=a,rfl⟩
abbrev w6 (n:Int)(h : -9223372036854775808<=n/\n<=9223372036854775807:=by omega):Pf:=⟨IntKind.i64.wrap n=n,i64_in h⟩
abbrev w7 (n:Int)(h:0<=n/\n<=18446744073709551615:=by omega):Pf:=⟨IntKind.u64.wrap n=n,u64_in h⟩
abbrev x6 (k:IntKind)(xs:List Int)(n:Int)(h0:0<=n:=by omega)(h1:n<(xs.length:Int):=by first | omega | (simp only [len_st]; omega) | (simp; done) | (simp; omega)):Pf:=⟨0<=n/\n<((xs.map (SV.int k)).length:Int)/\(xs.map (SV.int k))[n.toNat]? = some (.int k (ix xs n)),ix_ok h0 h1⟩
abbrev qT (x y:Int)(h:x=y:=by omega):Pf:=⟨(x == y)=true,beq_iff_eq.2 h⟩
abbrev qF (x y:Int)(h:x≠y:=by omega):Pf:=⟨(x == y)=false,beq_eq_false_iff_ne.2 h⟩
abbrev nT (x y:Int)(h:x≠y:=by omega):Pf:=⟨(x != y)=true,bne_iff_ne.2 h⟩
abbrev nF (x y:Int)(h:x=y:=by omega):Pf:=⟨(x != y)=false,bne_eq_false_iff_eq.2 h⟩
abbrev dT (p:Prop) [Decidable p] (h:p:=by omega):Pf:=⟨decide p=true,decide_eq_true h⟩
abbrev dF (p:Prop) [Decidable p] (h:¬ p:=by omega):Pf:=⟨decide p=false,decide_eq_false h⟩
abbrev l6 {α:Type}(f:α->SV)(xs:List α):Pf:=⟨(((xs.map f).length:Nat):Int)=(xs.length:Int),by simp⟩
theorem vr {R R':SV->Prop}(k:∀ v,R v->R' v:=by intro v h; (repeat' (rcases (id h:_\/_) with h | h)) <;> first | exact h | exact h.2 | exact h.2.2 | exact h.2.2.2 | exact h.2.2.2.2 | (exfalso; first | omega | grind)):∀ v,R v->R' v:=k
section
variable {rd:Option Nat} {P:Program} {N n0:Nat} {s:St} {K:XE->St->Prop} {c:Operand} {x y:Code}
theorem xcD (p:Prop) [Decidable p] (ht:p->XW rd P N n0 x K s)(hf:¬ p->XW rd P N n0 y K s)(hc:evo s.fr c = .bool (decide p):=by kernel_rfl):XW rd P N n0 (.cond c x y) K s:=xw_cond hc (fun h=>ht (of_decide_eq_true h)) (fun h=>hf (of_decide_eq_false h))
theorem xcE (a b:Int)(ht:a=b->XW rd P N n0 x K s)(hf:a≠b->XW rd P N n0 y K s)(hc:evo s.fr c = .bool (a == b):=by kernel_rfl):XW rd P N n0 (.cond c x y) K s:=xw_cond hc (fun h=>ht (eq_of_beq h)) (fun h=>hf (ne_of_beq_false h))
theorem xcN (a b:Int)(ht:a≠b->XW rd P N n0 x K s)(hf:a=b->XW rd P N n0 y K s)(hc:evo s.fr c = .bool (a != b):=by kernel_rfl):XW rd P N n0 (.cond c x y) K s:=xw_cond hc (fun h=>ht (bne_iff_ne.1 h)) (fun h=>hf (bne_eq_false_iff_eq.1 h))
end
def dstAt (ops:Array Oper)(i:Nat):Option Nat:=match ops.toList[i]? with
 | some o=>o.dst
 | none=>none
section
variable {rd:Option Nat} {P:Program} {T:Tab} {N n0:Nat} {ops:Array Oper}
theorem en {i:Nat}{K:St->Prop}{s:St}(hk:K s)(h:ops.toList.drop i=[]:=by kernel_rfl):XOi rd P N n0 ops i K s:=endr h hk
theorem qen {mem:Mem}{nx:Nat}{i:Nat}{K:Fr->Prop}{fr:Fr}(hk:K fr)(h:ops.toList.drop i=[]:=by kernel_rfl):QOi P N ops mem nx i K fr:=qend h hk
theorem sen {sg:List (Mem×Nat)}{ws:List Nat}{bf:List (Nat×List Nat)}{i:Nat}{K:Fr->Prop}{fr:Fr}(hk:K fr)(h:ops.toList.drop i=[]:=by kernel_rfl):SO P N ops sg ws bf i K fr:=send h hk
theorem pc {i:Nat}{K:St->Prop}{s:St}{f:Nat}{args:List SV}{sv:SV}(hp:Pub P f args (fun t=>t=sv))(hk:XOi rd P N n0 ops (i + 1) K ⟨putO s.fr (dstAt ops i) sv,s.mem,s.nx⟩)
  (h:callAt N ops s.fr i=some (f,args,dstAt ops i):=by kernel_rfl) (hb:bdL 0 args=true:=by kernel_rfl):XOi rd P N n0 ops i K s:=pcall0 hp h hb hk
theorem qc {mem:Mem}{nx:Nat}{i:Nat}{K:Fr->Prop}{fr:Fr}{f:Nat}{args:List SV}{sv:SV}(hp:Pub P f args (fun t=>t=sv))(hk:QOi P N ops mem nx (i + 1) K (putO fr (dstAt ops i) sv))
  (h:qcallAt ops fr i=some (f,args,dstAt ops i):=by kernel_rfl) (hb:bdL 0 args=true:=by kernel_rfl):QOi P N ops mem nx i K fr:=pqcall0 hp h hb hk
theorem sc {sg:List (Mem×Nat)}{ws:List Nat}{bf:List (Nat×List Nat)}{i:Nat}{K:Fr->Prop}{fr:Fr}{f:Nat}{args:List SV}{sv:SV}(hp:Pub P f args (fun t=>t=sv))(hk:SO P N ops sg ws bf (i + 1) K (putO fr (dstAt ops i) sv))
  (h:qcallAt ops fr i=some (f,args,dstAt ops i):=by kernel_rfl) (hno:wIdx i 0 ws=none:=by kernel_rfl) (hb:bdL 0 args=true:=by kernel_rfl):SO P N ops sg ws bf i K fr:=scall0 hp h hno hb hk
theorem ct {K:XE->St->Prop}{s:St}{c:Operand}{x y:Code}(ht:XW rd P N n0 x K s)(hc:evo s.fr c = .bool true:=by kernel_rfl):XW rd P N n0 (.cond c x y) K s:=xw_true hc ht
theorem cf {K:XE->St->Prop}{s:St}{c:Operand}{x y:Code}(hf:XW rd P N n0 y K s)(hc:evo s.fr c = .bool false:=by kernel_rfl):XW rd P N n0 (.cond c x y) K s:=xw_false hc hf
theorem bs {rs:Array ResultVar}{R:SV->Prop}{s:St}(x:SV)(h4:R x)(h1:xres T s rs=some x:=by kernel_rfl)(h2:pubS s.mem x=some x:=by kernel_rfl):Back T rs R .ret s:=⟨x,x,x,h1,h2,fun _ _ h=>h,h4⟩
theorem br {rs:Array ResultVar}{R:SV->Prop}{s:St}(x t:SV)(h3:WkD x t)(h4:R t)(h1:xres T s rs=some x:=by kernel_rfl)(h2:pubS s.mem x=some x:=by kernel_rfl):Back T rs R .ret s:=⟨x,x,t,h1,h2,h3,h4⟩
theorem bq {rs:Array ResultVar}{R:SV->Prop}{s:St}(x t:SV)(h3:WkD x t)(h4:R t)(h1:xres T s rs=some x:=by kernel_rfl)(h2:pubS s.mem x=some x:=by kernel_rfl):Back T rs R .normal s:=⟨x,x,t,h1,h2,h3,h4⟩
theorem rk_ (hT:TabOk P T)(orc:List (Nat×SV))(n i:Nat){s:St}(s':St)(ks:List Prop){K:St->Prop}(hk:All ks)(hx:XOi rd P N n0 ops (i + n) K s')
  (h:xrunk T N ops orc n i (s'.fr.map Prod.fst) (s'.mem.map Prod.fst) s=some (s',ks):=by kernel_rfl):XOi rd P N n0 ops i K s:=runk hT orc n i _ _ s' ks h hk hx
theorem rg_ (hT:TabOk P T)(orc:List (Nat×SV))(n:Nat){id:Nat}{y:Code}{s:St}(s':St)(ks:List Prop){K:XE->St->Prop}(hk:All ks)(hx:XW rd P N n0 y K s')
  (h:xrunk T N ops orc n 0 (s'.fr.map Prod.fst) (s'.mem.map Prod.fst) s=some (s',ks):=by kernel_rfl) (hn:ops.toList.drop (0 + n)=[]:=by kernel_rfl):XW rd P N n0 (.seq (.region id ops false) y) K s :=
 xw_seq (reg (runk hT orc n 0 _ _ s' ks h hk (endr hn hx)))
theorem re_ (hT:TabOk P T)(orc:List (Nat×SV))(n:Nat){id:Nat}{s:St}(s':St)(ks:List Prop){K:XE->St->Prop}(hk:All ks)(hx:K .normal s')
  (h:xrunk T N ops orc n 0 (s'.fr.map Prod.fst) (s'.mem.map Prod.fst) s=some (s',ks):=by kernel_rfl) (hn:ops.toList.drop (0 + n)=[]:=by kernel_rfl):XW rd P N n0 (.region id ops false) K s :=
 reg (runk hT orc n 0 _ _ s' ks h hk (endr hn hx))
abbrev sm {α:Sort _}(a:α):Prop:=a=a
abbrev fi:Prop:=false=true->false=true
def ksO {α:Type} : Option (α×List Prop)->Option (List Prop)
 | some (_,k)=>some k
 | none=>none
def stO {α:Type}(r:Option (α×List Prop))(d:α):α:=match r with
 | some (s,_)=>s
 | none=>d
theorem stO_of {α:Type}{r:Option (α×List Prop)}{ks:List Prop}(d:α)(h:ksO r=some ks):r=some (stO r d,ks):=by
 cases r with
 | none=>cases h
 | some q=>cases h; rfl
theorem rki_ (hT:TabOk P T)(orc:List (Nat×SV))(n i:Nat){s:St}(kf km:List Nat)(ks:List Prop){K:St->Prop}(hk:All ks)(hx:XOi rd P N n0 ops (i + n) K (stO (xrunk T N ops orc n i kf km s) s))
  (h:ksO (xrunk T N ops orc n i kf km s)=some ks:=by kernel_rfl):XOi rd P N n0 ops i K s:=runk hT orc n i kf km _ ks (stO_of s h) hk hx
theorem rgi_ (hT:TabOk P T)(orc:List (Nat×SV))(n:Nat){id:Nat}{y:Code}{s:St}(kf km:List Nat)(ks:List Prop){K:XE->St->Prop}(hk:All ks)(hx:XW rd P N n0 y K (stO (xrunk T N ops orc n 0 kf km s) s))
  (h:ksO (xrunk T N ops orc n 0 kf km s)=some ks:=by kernel_rfl) (hn:ops.toList.drop (0 + n)=[]:=by kernel_rfl):XW rd P N n0 (.seq (.region id ops false) y) K s :=
 xw_seq (reg (runk hT orc n 0 kf km _ ks (stO_of s h) hk (endr hn hx)))
theorem rei_ (hT:TabOk P T)(orc:List (Nat×SV))(n:Nat){id:Nat}{s:St}(kf km:List Nat)(ks:List Prop){K:XE->St->Prop}(hk:All ks)(hx:K .normal (stO (xrunk T N ops orc n 0 kf km s) s))
  (h:ksO (xrunk T N ops orc n 0 kf km s)=some ks:=by kernel_rfl) (hn:ops.toList.drop (0 + n)=[]:=by kernel_rfl):XW rd P N n0 (.region id ops false) K s :=
 reg (runk hT orc n 0 kf km _ ks (stO_of s h) hk (endr hn hx))
theorem qri_ (hT:TabOk P T){mem:Mem}{nx:Nat}(orc:List (Nat×SV))(n i:Nat){fr:Fr}(ks:List Prop){K:Fr->Prop}(hk:All ks)(hx:QOi P N ops mem nx (i + n) K (stO (xqruni T ops mem nx orc n i fr) fr))(h:ksO (xqruni T ops mem nx orc n i fr)=some ks:=by kernel_rfl):QOi P N ops mem nx i K fr:=qrun hT orc n i fr _ ks (stO_of fr h) hk hx
theorem sri_ (hT:TabOk P T){sg:List (Mem×Nat)}{ws:List Nat}{bf:List (Nat×List Nat)}(orc:List (Nat×SV))(n i:Nat){fr:Fr}(ks:List Prop){K:Fr->Prop}(hk:All ks)(hx:SO P N ops sg ws bf (i + n) K (stO (xsrun T ops sg ws bf orc n i fr) fr))(h:ksO (xsrun T ops sg ws bf orc n i fr)=some ks:=by kernel_rfl):SO P N ops sg ws bf i K fr:=srun hT orc n i _ ks (stO_of fr h) hk hx
end
set_option linter.unusedVariables false
def headErr (t l m:Int):Int :=
 if (t≠255/\(t<1\/200<t))\/l<0 then 1
 else if t=255 then (if 65535<l then 3 else if m=0 then 0 else 8)
 else if 16<l then 3 else if m<2 ^ l.toNat then 0 else 8
theorem pow16 {l:Int}(h0:0<=l)(h1:l<=16):(2:Int) ^ l.toNat<=65536:=by
 obtain ⟨k,rfl⟩:=Int.eq_ofNat_of_zero_le h0
 have hk:k<=16:=om
 have:(2:Nat) ^ k<=2 ^ 16:=Nat.pow_le_pow_right (by decide) hk
 have e:((2:Int) ^ (Int.toNat (k:Int)))=((2 ^ k:Nat):Int):=by simp
 rw [e]; omega
theorem one_le_pow (n:Nat):(1:Int)<=2 ^ n:=by
 have:(0:Int)<2 ^ n:=Int.pow_pos (by decide)
 omega
theorem ptr_eq {m i:Int}(h0:0<=i)(h1:i<64):m.fdiv (2 ^ min i.toNat IntKind.u64.bits)=m / 2 ^ i.toNat:=by
 have e:min i.toNat IntKind.u64.bits=i.toNat:=Nat.min_eq_left (by show i.toNat<=64; omega)
 have hp:(0:Int)<2 ^ i.toNat:=Int.pow_pos (by decide)
 rw [e,Int.fdiv_eq_ediv_of_nonneg _ (Int.le_of_lt hp)]
def isPtr (l m i:Int):Bool:=decide (0<=i/\i<l/\i<64/\(m / 2 ^ i.toNat) % 2=1)
theorem pow_step {i v:Int}(h0:0<=i)(e:v=2 ^ i.toNat):v + v=2 ^ (i + 1).toNat:=by
 have:(i + 1).toNat=i.toNat + 1:=om
 rw [this,Int.pow_succ,<- e]; omega
theorem pow_mono {l:Int}(m:Nat)(h0:0<=l)(h1:l<=(m:Int)):(2:Int) ^ l.toNat<=((2 ^ m:Nat):Int):=by
 have:(2:Nat) ^ l.toNat<=2 ^ m:=Nat.pow_le_pow_right (by decide) om
 have e:((2:Int) ^ l.toNat)=((2 ^ l.toNat:Nat):Int):=by simp
 rw [e]; exact Int.ofNat_le.2 this
theorem pow_b1 {i v:Int}(h0:0<=i)(h1:i<=62)(e:v=2 ^ i.toNat):v + v<=9223372036854775808:=by
 rw [pow_step h0 e]; exact pow_mono 63 om om
theorem pow_b2 {i v:Int}(h0:0<=i)(h1:i<=62)(e:v=2 ^ i.toNat):i + 1=63\/(v + v) * 4<=18446744073709551616:=by
 by_cases h:i + 1=63
 ·exact .inl h
 ·right
  rw [pow_step h0 e]
  have:=pow_mono (l:=i + 1) 62 om om
  have e2:((2 ^ 62:Nat):Int)=4611686018427387904:=rfl
  rw [e2] at this; omega
theorem headErr_cases (t l m:Int)(hm:0<=m):(((t=255/\0<=l/\l<=65535/\m=0)\/(1<=t/\t<=200/\0<=l/\l<=16/\m<2 ^ l.toNat/\m<65536))/\headErr t l m=0)\/(¬ ((t=255/\0<=l/\l<=65535/\m=0)\/(1<=t/\t<=200/\0<=l/\l<=16/\m<2 ^ l.toNat/\m<65536))/\headErr t l m≠0):=by
 have hp:=@pow16 l
 unfold headErr
 by_cases h1:(t≠255/\(t<1\/200<t))\/l<0
 ·rw [if_pos h1]; right; refine ⟨om,om⟩
 ·rw [if_neg h1]
  by_cases h2:t=255
  ·rw [if_pos h2]
   by_cases h3:65535<l
   ·rw [if_pos h3]; right; refine ⟨om,om⟩
   ·rw [if_neg h3]
    by_cases h4:m=0
    ·rw [if_pos h4]; left; refine ⟨om,rfl⟩
    ·rw [if_neg h4]; right; refine ⟨om,om⟩
  ·rw [if_neg h2]
   by_cases h3:16<l
   ·rw [if_pos h3]; right; refine ⟨om,om⟩
   ·rw [if_neg h3]
    by_cases h4:m<2 ^ l.toNat
    ·rw [if_pos h4]; left; refine ⟨.inr ⟨om,om,om,om,h4,?_⟩,rfl⟩
     have:=hp om om; omega
    ·rw [if_neg h4]; right; refine ⟨om,om⟩
theorem headErr_ne {t l m:Int}(hm:0<=m)(h:¬ ((t=255/\0<=l/\l<=65535/\m=0)\/(1<=t/\t<=200/\0<=l/\l<=16/\m<2 ^ l.toNat/\m<65536))):headErr t l m≠0:=by
 rcases headErr_cases t l m hm with h1 | h1
 ·exact absurd h1.1 h
 ·exact h1.2
theorem shr_zero {l m:Int}(h0:0<=l)(h1:l<=16)(hm:0<=m):m.fdiv (2 ^ min l.toNat IntKind.u64.bits)=0↔m<2 ^ l.toNat:=by
 have e:min l.toNat IntKind.u64.bits=l.toNat:=Nat.min_eq_left (by show l.toNat<=64; omega)
 have hp:(0:Int)<2 ^ l.toNat:=Int.pow_pos (by decide)
 rw [e,Int.fdiv_eq_ediv_of_nonneg _ (Int.le_of_lt hp)]
 constructor
 ·intro h
  have:=Int.lt_ediv_add_one_mul_self m hp
  rw [h] at this; omega
 ·intro h
  exact Int.ediv_eq_zero_of_lt hm h
theorem ix_append1 {xs ys:List Int}{i:Int}(h0:0<=i)(h:i<(xs.length:Int)):ix (xs++ys) i=ix xs i:=by
 unfold ix
 have:i.toNat<xs.length:=om
 simp [List.getElem?_append_left this]
theorem ix_append2 {xs ys:List Int}{i:Int}(h:(xs.length:Int)<=i):ix (xs++ys) i=ix ys (i - (xs.length:Int)):=by
 unfold ix
 have h1:xs.length<=i.toNat:=om
 have h2:(i - (xs.length:Int)).toNat=i.toNat - xs.length:=om
 simp [List.getElem?_append_right h1,h2]
theorem splice1 {xs:List Int}{p v:Int}(h0:0<=p)(h1:p<(xs.length:Int)):((([]++(List.map (SV.int .u64) xs)):List SV).take p.toNat++([SV.int .u64 v] : List SV).take ((([]++(List.map (SV.int .u64) xs)):List SV).length - p.toNat)++(([]++(List.map (SV.int .u64) xs)):List SV).drop (p.toNat + (([SV.int .u64 v] : List SV).take ((([]++(List.map (SV.int .u64) xs)):List SV).length - p.toNat)).length))=List.map (SV.int .u64) (st xs p v):=by
 obtain ⟨k,hk⟩ : ∃ k,xs.length - p.toNat=k + 1:=⟨xs.length - p.toNat - 1,om⟩
 have hp:p.toNat<xs.length:=om
 simp only [List.nil_append,List.length_map,hk,List.take_succ_cons,List.take_nil,List.length_cons,List.length_nil,st]
 rw [List.set_eq_take_append_cons_drop,if_pos hp]
 simp
theorem stx_ok (W:Int)(xs ys:List Int)(a v:Int)(h1:(xs.length:Int)=W)(h2:(ys.length:Int)=W)(h3:U64s xs)(h4:U64s ys)(hv:0<=v/\v<=18446744073709551615):((stx xs a v).length:Int)=W/\((sty ys a v).length:Int)=W/\U64s (stx xs a v)/\U64s (sty ys a v) :=
 ⟨by rw [len_stx]; exact h1,by rw [len_sty]; exact h2,h3.stx _ hv,h4.sty _ hv⟩
theorem ldw_ok (xs ys:List Int)(a:Int)(h3:U64s xs)(h4:U64s ys):0<=ldw xs ys a/\ldw xs ys a<=18446744073709551615:=h3.ldw h4 a
end Go.Proofs.YtmmfpkkamgapkaaGreat.X
