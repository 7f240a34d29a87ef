/- Drawn regions whose writers have no order: the runner over all stages. -/
import Derived.Test.YtmmfpkkamgapkaaGreatXv
namespace Go.Proofs.YtmmfpkkamgapkaaGreat.X
open Go Go.RowKit
def ins (r:Nat)(B:Blk):Mem->Mem
  | []=>[(r,B)]
  | (k,C) :: l=>match Nat.blt k r with
    | true=>(r,B) :: (k,C) :: l
    | false=>(k,C) :: ins r B l
theorem fnd_ins {r:Nat}{B:Blk} : ∀ {mem:Mem} (n:Nat),fnd mem r=none->fnd (ins r B mem) n=fnd ((r,B) :: mem) n
  | [],n,_=>rfl
  | (k,C) :: l,n,h=>by
    simp only [ins]
    split
    · rfl
    · rw [fnd_cons] at h
      split at h
      · cases h
      · rename_i hk
        rw [fnd_cons,fnd_ins n h,fnd_cons,fnd_cons,fnd_cons]
        by_cases e:k=n
        · subst e; simp [Ne.symm hk]
        · simp [e]
section
variable {rd:Option Nat} {P:Program} {T:Tab} {N n0 m:Nat} {ops:Array Oper} {fr:Fr} {mem:Mem} {nx:Nat}
theorem UOk.congr {un un':List Nat}{o:Oper}{sv:SV}{mem1 mem2:Mem}(h:UOk P N m fr mem nx un o sv mem1 un')(he:∀ Γ ρ w,Inv Γ ρ nx mem w->(∀ r∈un,ρ.blk r=none/\ρ.val r=none)->∀ n,fnd mem2 n=fnd mem1 n):UOk P N m fr mem nx un o sv mem2 un':=by
  intro Γ ρ w a hi hf hu
  obtain ⟨v,r,Γ',ρ',w',h1,h2,h3,h4,h5,h6,h7,h8,h9,h10,h11⟩:=h Γ ρ w a hi hf hu
  have he:=he Γ ρ w hi hu
  refine ⟨v,r,Γ',ρ',w',h1,h2,h3,h4,⟨h5.pub,fun r B hB=>?_,fun r r' b B B' hB hB'=>?_⟩,h6,h7,⟨h8.os,h8.tape,h8.output,h8.size,h8.keep,fun b hb=>?_⟩,h9,h10,h11⟩
  · rw [he] at hB; exact h5.priv r B hB
  · rw [he] at hB hB'; exact h5.inj r r' b B B' hB hB'
  · obtain ⟨r,B,hB,hb⟩:=hb
    rw [he] at hB
    exact h8.own b ⟨r,B,hB,hb⟩
def openOk (m nx r:Nat)(un un':List Nat):Bool:=hasN un r && Nat.blt r nx && Nat.ble m r && un'.all fun x=>hasN un x && !Nat.beq x r
def xuw (T:Tab)(m nx:Nat)(fr:Fr)(g g':Stg)(o:Op)(q:SV):Option (SV×List Prop) :=
  match o,q with
  | .alloc t,.loc r 0=>match fnd T t,openOk m nx r g.un g'.un with
    | some ti,true=>some (.loc r 0,[ins r (.cells ti.zero t) g.mem=g'.mem])
    | _,_=>none
  | .box t x,.loc r 0=>match cellsOf (evo fr x),openOk m nx r g.un g'.un with
    | some l,true=>some (.loc r 0,[ins r (.cells l t) g.mem=g'.mem])
    | _,_=>none
  | .buildSlice t len parts,.own r=>match xbuildSlice T fr g.mem nx t len parts,openOk m nx r g.un g'.un with
    | some (.own n1,(n2,.row z E xs) :: mem1,n3,_),true=>match Nat.beq n1 nx,Nat.beq n2 nx,Nat.beq n3 (nx + 1) with
      | true,true,true=>some (.own r,[ins r (.row z E xs) mem1=g'.mem])
      | _,_,_=>none
    | _,_=>none
  | .store t x v,_=>match xstore T fr g.mem nx t x v,g'.un.all (hasN g.un) with
    | some (sv,mem',nx',c),true=>match Nat.beq nx' nx with
      | true=>some (sv,[c,mem'=g'.mem])
      | false=>none
    | _,_=>none
  | .call ⟨.builtin .append,⟨[x,y]⟩,⟨[t,t2]⟩⟩,.bool true=>match xappsh T fr g.mem nx t t2 x y,g'.un.all (hasN g.un) with
    | some (sv,mem',nx',c),true=>match Nat.beq nx' nx with
      | true=>some (sv,[c,mem'=g'.mem])
      | false=>none
    | _,_=>none
  | .call ⟨.builtin .append,⟨[x,y]⟩,⟨[t,t2]⟩⟩,.own r=>match xappend T fr g.mem nx t t2 x y,openOk m nx r g.un g'.un with
    | some (.own n1,(n2,.row z E xs) :: mem1,n3,c),true=>match Nat.beq n1 nx,Nat.beq n2 nx,Nat.beq n3 (nx + 1) with
      | true,true,true=>some (.own r,[c,ins r (.row z E xs) mem1=g'.mem])
      | _,_,_=>none
    | _,_=>none
  | _,_=>none
theorem open_none {Γ:Gh}{ρ:Env}{w:World}(hi:Inv Γ ρ nx mem w){r:Nat}(h:ρ.blk r=none/\ρ.val r=none):fnd mem r=none:=by
  cases hq:fnd mem r with
  | none=>rfl
  | some B=>exact absurd h (hi.priv r B hq).1.known
theorem xappend_sub {t t2:Nat}{x y:Operand}{sv:SV}{B:Blk}{n2 n3:Nat}{mem1:Mem}{c:Prop}(h:xappend T fr mem nx t t2 x y=some (sv,(n2,B) :: mem1,n3,c)):∀ r C,fnd mem1 r=some C->fnd mem r=some C:=by
  unfold xappend at h
  repeat' split at h
  all_goals first
    | (simp only [Option.some.injEq,Prod.mk.injEq,List.cons.injEq] at h
       obtain ⟨_,⟨_,rfl⟩,_⟩:=h
       intro r C hC
       first
         | (rw [fnd_del] at hC; split at hC <;> first | (cases hC; done) | exact hC)
         | exact hC)
    | (cases h; done)
theorem xuw_sound (hT:TabOk P T){g g':Stg}{o:Oper}{q sv:SV}{ks:List Prop}(h:xuw T m nx fr g g' o.op q=some (sv,ks))(hk:All ks)(hm:m<=nx)(hlt:∀ r∈g.un,r<nx):UOk P N m fr g.mem nx g.un o sv g'.mem g'.un:=by
  unfold xuw at h
  split at h
  · rename_i t r ho
    split at h
    · rename_i ti hti hop
      simp only [Option.some.injEq,Prod.mk.injEq] at h
      obtain ⟨rfl,rfl⟩:=h
      simp only [openOk,Bool.and_eq_true,List.all_eq_true,Bool.not_eq_true'] at hop
      obtain ⟨⟨⟨h1,h2⟩,h3⟩,h4⟩:=hop
      have hr:=hasN_mem h1
      have:=UOk.new (P:=P) (N:=N) (fr:=fr) (mem:=g.mem) (nx:=nx) (m:=m) (r0:=r) (un:=g.un) (un':=g'.un) (o:=o) (l:=ti.zero) (E:=t) hr (by simpa using h2) (by simpa using h3) (fun x hx=>⟨hasN_mem (h4 x hx).1,fun e=>by have:=(h4 x hx).2; rw [e,Nat.beq_refl] at this; cases this⟩) (fun Γ ρ w a hi hf=>by
        obtain ⟨zv,h1,h2⟩:=(hT t ti hti).zeroValue
        obtain ⟨h3,h4,h5,_⟩:=consts_den (Γ:=Γ) (ρ:=ρ) (n:=nx) h2
        exact ⟨zv.cells,by simp [execOp,ho,Instr.alloc,h1,newVar,newRow],h3,h4,h5⟩)
      refine this.congr fun Γ ρ w hi hu n=>?_
      rw [<- hk.1]; exact fnd_ins n (open_none hi (hu r hr))
    · cases h
  · rename_i t x r ho
    split at h
    · rename_i l hl hop
      simp only [Option.some.injEq,Prod.mk.injEq] at h
      obtain ⟨rfl,rfl⟩:=h
      simp only [openOk,Bool.and_eq_true,List.all_eq_true,Bool.not_eq_true'] at hop
      obtain ⟨⟨⟨h1,h2⟩,h3⟩,h4⟩:=hop
      have hr:=hasN_mem h1
      have:=UOk.new (P:=P) (N:=N) (fr:=fr) (mem:=g.mem) (nx:=nx) (m:=m) (r0:=r) (un:=g.un) (un':=g'.un) (o:=o) (l:=l) (E:=t) hr (by simpa using h2) (by simpa using h3) (fun x hx=>⟨hasN_mem (h4 x hx).1,fun e=>by have:=(h4 x hx).2; rw [e,Nat.beq_refl] at this; cases this⟩) (fun Γ ρ w a hi hf=>by
        obtain ⟨h1,h2⟩:=evo_den hf x
        obtain ⟨h3,h4,h5⟩:=cellsOf_den hl h1 h2
        exact ⟨(a.eval x).cells,by simp [execOp,ho,Instr.box,newVar,newRow],h3,h4,h5⟩)
      refine this.congr fun Γ ρ w hi hu n=>?_
      rw [<- hk.1]; exact fnd_ins n (open_none hi (hu r hr))
    · cases h
  · rename_i t len parts r ho
    split at h
    · rename_i n1 n2 z E xs mem1 n3 c hx hop
      split at h
      · rename_i e1 e2 e3
        simp only [Option.some.injEq,Prod.mk.injEq] at h
        obtain ⟨rfl,rfl⟩:=h
        obtain ⟨k2,_⟩:=hk
        rw [Nat.eq_of_beq_eq_true e1,Nat.eq_of_beq_eq_true e2,Nat.eq_of_beq_eq_true e3] at hx
        simp only [openOk,Bool.and_eq_true,List.all_eq_true,Bool.not_eq_true'] at hop
        obtain ⟨⟨⟨h1,h2⟩,h3⟩,h4⟩:=hop
        have hr:=hasN_mem h1
        have hsub:∀ r C,fnd mem1 r=some C->fnd g.mem r=some C:=by
          obtain ⟨_,_,_,_,e5,_,_⟩:=buildSlice_form hx
          have e6:mem1=g.mem:=by
            injection e5
          rw [e6]; exact fun _ _ h=>h
        have:=UOk.row (P:=P) (N:=N) (fr:=fr) (mem:=g.mem) (nx:=nx) (m:=m) (r0:=r) (un:=g.un) (un':=g'.un) (o:=o) hr (by simpa using h2) (by simpa using h3) (fun x hx=>⟨hasN_mem (h4 x hx).1,fun e=>by have:=(h4 x hx).2; rw [e,Nat.beq_refl] at this; cases this⟩) hsub (ok_buildSlice hT ho hx)
        refine this.congr fun Γ ρ w hi hu n=>?_
        rw [<- k2]
        have hn:fnd mem1 r=none:=by
          cases hq:fnd mem1 r with
          | none=>rfl
          | some C=>have:=hsub r C hq; rw [open_none hi (hu r hr)] at this; cases this
        exact fnd_ins n hn
      · cases h
    · cases h
  · rename_i t x v _ ho
    split at h
    · rename_i sv' mem' nx' c hx hun
      split at h
      · rename_i hn
        simp only [Option.some.injEq,Prod.mk.injEq] at h
        obtain ⟨rfl,rfl⟩:=h
        obtain ⟨h1,h2,_⟩:=hk
        have:=ok_store (P:=P) (N:=N) hT ho hx h1
        rw [Nat.eq_of_beq_eq_true hn,h2] at this
        exact UOk.of this hm (fun r hr=>hasN_mem (List.all_eq_true.1 hun r hr)) hlt
      · cases h
    · cases h
  · rename_i x y t t2 ho
    split at h
    · rename_i sv' mem' nx' c hx hun
      split at h
      · rename_i hn
        simp only [Option.some.injEq,Prod.mk.injEq] at h
        obtain ⟨rfl,rfl⟩:=h
        obtain ⟨h1,h2,_⟩:=hk
        have:=ok_appsh (P:=P) (N:=N) hT ho hx h1
        rw [Nat.eq_of_beq_eq_true hn,h2] at this
        exact UOk.of this hm (fun r hr=>hasN_mem (List.all_eq_true.1 hun r hr)) hlt
      · cases h
    · cases h
  · rename_i x y t t2 r ho
    split at h
    · rename_i n1 n2 z E xs mem1 n3 c hx hop
      split at h
      · rename_i e1 e2 e3
        simp only [Option.some.injEq,Prod.mk.injEq] at h
        obtain ⟨rfl,rfl⟩:=h
        obtain ⟨k1,k2,_⟩:=hk
        rw [Nat.eq_of_beq_eq_true e1,Nat.eq_of_beq_eq_true e2,Nat.eq_of_beq_eq_true e3] at hx
        simp only [openOk,Bool.and_eq_true,List.all_eq_true,Bool.not_eq_true'] at hop
        obtain ⟨⟨⟨h1,h2⟩,h3⟩,h4⟩:=hop
        have hr:=hasN_mem h1
        have hsub:∀ r C,fnd mem1 r=some C->fnd g.mem r=some C:=xappend_sub hx
        have:=UOk.row (P:=P) (N:=N) (fr:=fr) (mem:=g.mem) (nx:=nx) (m:=m) (r0:=r) (un:=g.un) (un':=g'.un) (o:=o) hr (by simpa using h2) (by simpa using h3) (fun x hx=>⟨hasN_mem (h4 x hx).1,fun e=>by have:=(h4 x hx).2; rw [e,Nat.beq_refl] at this; cases this⟩) hsub (ok_append hT ho hx k1)
        refine this.congr fun Γ ρ w hi hu n=>?_
        rw [<- k2]
        have hn:fnd mem1 r=none:=by
          cases hq:fnd mem1 r with
          | none=>rfl
          | some C=>have:=hsub r C hq; rw [open_none hi (hu r hr)] at this; cases this
        exact fnd_ins n hn
      · cases h
    · cases h
  · cases h
def sameN (a b:List Nat):Bool:=a.all (hasN b) && b.all (hasN a)
def nextU (dn:List Nat):Nat->List Stg->Option Nat
  | _,[]=>none
  | k,g :: l=>match sameN g.dn dn with
    | true=>some k
    | false=>nextU dn (k + 1) l
theorem nextU_spec {dn:List Nat} : ∀ {l:List Stg} {k k':Nat},nextU dn k l=some k'->k<=k'/\k' - k<l.length/\∀ v,v∈(stAt l (k' - k)).dn↔v∈dn
  | g :: l,k,k',h=>by
    simp only [nextU] at h
    split at h
    · rename_i hs
      cases h
      refine ⟨Nat.le_refl _,by simp,fun v=>?_⟩
      simp only [sameN,Bool.and_eq_true,List.all_eq_true] at hs
      simp only [Nat.sub_self,stAt,List.getElem?_cons_zero]
      exact ⟨fun hv=>hasN_mem (hs.1 v hv),fun hv=>hasN_mem (hs.2 v hv)⟩
    · obtain ⟨h1,h2,h3⟩:=nextU_spec h
      have e:k' - k=(k' - (k + 1)) + 1:=om
      refine ⟨om,by simp; omega,fun v=>?_⟩
      rw [<- h3 v,e]
      simp [stAt]
def xuall (f:Nat->Option (SV×List Prop)):List Nat->Option (SV×List Prop)
  | []=>none
  | [k]=>f k
  | k :: l=>match f k,xuall f l with
    | some (sv,cs),some (sv2,cs2)=>some (sv,(sv2=sv) :: cs++cs2)
    | _,_=>none
theorem xuall_spec {f:Nat->Option (SV×List Prop)} : ∀ {l:List Nat} {sv:SV} {cs:List Prop},xuall f l=some (sv,cs)->All cs->∀ k∈l,∃ c,f k=some (sv,c)/\All c
  | [],_,_,h,_=>by simp [xuall] at h
  | [k],sv,cs,h,hc=>by
    simp only [xuall] at h
    intro j hj; simp at hj; subst hj
    exact ⟨cs,h,hc⟩
  | k :: k2 :: l,sv,cs,h,hc=>by
    simp only [xuall] at h
    split at h
    · rename_i s c s2 c2 hx hr
      simp only [Option.some.injEq,Prod.mk.injEq] at h
      obtain ⟨rfl,rfl⟩:=h
      obtain ⟨h1,h2⟩:=hc
      obtain ⟨h2,h3⟩:=All.append h2
      subst h1
      intro j hj
      rcases List.mem_cons.1 hj with rfl | hj
      · exact ⟨c,hx,h2⟩
      · exact xuall_spec hr h3 j hj
    · cases h
def stagesU (sg:List Stg)(ws:List Nat)(bf:List (Nat×List Nat))(i:Nat):List Nat:=(List.range sg.length).filter fun k=>mayU bf ws (stAt sg k).dn i
def xufn (T:Tab)(m nx:Nat)(fr:Fr)(sg:List Stg)(ws:List Nat)(i:Nat)(o:Op)(q:SV)(k:Nat):Option (SV×List Prop) :=
  match hasN ws i with
  | true=>match nextU (i :: (stAt sg k).dn) 0 sg with
    | some k'=>xuw T m nx fr (stAt sg k) (stAt sg k') o q
    | none=>none
  | false=>match quietA fr o q,xop2 T fr (stAt sg k).mem nx o q with
    | true,some (sv,_,_,c)=>some (sv,[c])
    | _,_=>none
def xurun (T:Tab)(m nx:Nat)(ops:Array Oper)(sg:List Stg)(ws:List Nat)(bf:List (Nat×List Nat))(orc:List (Nat×SV)):Nat->Nat->Fr->Option (Fr×List Prop)
  | 0,_,fr=>some (fr,[])
  | n + 1,i,fr=>match ops.toList[i]? with
    | none=>none
    | some o=>match gd ops (rs fr (o.looksAt ops)) o.guard,hasN ws i with
      | some false,false=>xurun T m nx ops sg ws bf orc n (i + 1) (putO fr o.dst (.tup []))
      | some true,_=>match xuall (xufn T m nx (rs fr (o.looksAt ops)) sg ws i o.op (match fnd orc i with | some q=>q | none=>.junk)) (stagesU sg ws bf i) with
        | some (sv,cs)=>match xurun T m nx ops sg ws bf orc n (i + 1) (putO fr o.dst sv) with
          | some (fr',ks)=>some (fr',cs++ks)
          | none=>none
        | none=>none
      | _,_=>none
variable {sg:List Stg} {ws:List Nat} {bf:List (Nat×List Nat)}
def UO (P:Program)(N m:Nat)(ops:Array Oper)(nx:Nat)(sg:List Stg)(ws:List Nat)(bf:List (Nat×List Nat))(i:Nat)(K:Fr->Prop)(fr:Fr):Prop :=
  ∃ ss fr2,UAll P N m ops nx sg ws bf i (ops.toList.drop i) ss fr/\(∀ t s,fnd fr2 t=some s->fnd (lexFr fr (ops.toList.drop i) ss) t=some s)/\K fr2
theorem uend {i:Nat}{K:Fr->Prop}{fr:Fr}(hk:K fr)(h:ops.toList.drop i=[]:=by kernel_rfl):UO P N m ops nx sg ws bf i K fr:=by
  refine ⟨[],fr,?_,?_,hk⟩
  · rw [h]; trivial
  · rw [h]; exact fun _ _ h=>h
theorem u_step {i:Nat}{o:Oper}{K:Fr->Prop}{fr:Fr}{sv:SV}(ho:ops.toList[i]? = some o)(hs:UStep P N m ops nx sg ws bf fr i o sv)(h:UO P N m ops nx sg ws bf (i + 1) K (putO fr o.dst sv)):UO P N m ops nx sg ws bf i K fr:=by
  obtain ⟨ss,fr2,h1,h2,h3⟩:=h
  refine ⟨sv :: ss,fr2,?_,?_,h3⟩
  · rw [drop_cons ho]; exact ⟨hs,h1⟩
  · rw [drop_cons ho]; exact h2
def unOk (sg:List Stg)(nx:Nat):Bool:=sg.all fun g=>g.un.all fun r=>Nat.blt r nx
theorem unOk_spec (h:unOk sg nx=true)(k:Nat):∀ r∈(stAt sg k).un,r<nx:=by
  unfold stAt
  split
  · rename_i g hg
    intro r hr
    have:=List.all_eq_true.1 (List.all_eq_true.1 h g (List.mem_of_getElem? hg)) r hr
    simpa using this
  · intro r hr; cases hr
theorem urun_ (hT:TabOk P T)(orc:List (Nat×SV))(hm:m<=nx)(hun:unOk sg nx=true):∀ (n i:Nat) {fr:Fr} (fr':Fr) (ks:List Prop) {K:Fr->Prop},xurun T m nx ops sg ws bf orc n i fr=some (fr',ks)->All ks->UO P N m ops nx sg ws bf (i + n) K fr'->UO P N m ops nx sg ws bf i K fr
  | 0,i,fr,fr',ks,K,h,_,hx=>by
    simp only [xurun,Option.some.injEq,Prod.mk.injEq] at h
    obtain ⟨rfl,rfl⟩:=h
    exact hx
  | n + 1,i,fr,fr',ks,K,h,hk,hx=>by
    have hn:i + (n + 1)=i + 1 + n:=om
    rw [hn] at hx
    simp only [xurun] at h
    split at h
    · cases h
    · rename_i o ho
      split at h
      · rename_i hg hw
        refine u_step ho ?_ (urun_ hT orc hm hun n (i + 1) _ ks h hk hx)
        intro k _ _
        rw [hw]
        exact .inl ⟨hg,rfl⟩
      · rename_i hg
        split at h
        · rename_i sv cs hev
          split at h
          · rename_i fr1 ks1 hr
            simp only [Option.some.injEq,Prod.mk.injEq] at h
            obtain ⟨rfl,rfl⟩:=h
            obtain ⟨h1,h2⟩:=hk.append
            refine u_step ho ?_ (urun_ hT orc hm hun n (i + 1) _ ks1 hr h2 hx)
            intro k hk1 hk2
            obtain ⟨c,g1,g2⟩:=xuall_spec hev h1 k (by
              unfold stagesU
              rw [List.mem_filter]
              exact ⟨by simpa using hk1,hk2⟩)
            unfold xufn at g1
            split at g1
            · rename_i hw
              rw [hw]
              split at g1
              · rename_i k' hk'
                obtain ⟨_,e2,e3⟩:=nextU_spec hk'
                rw [Nat.sub_zero] at e2 e3
                refine ⟨hg,k',e2,fun v=>?_,xuw_sound hT g1 g2 hm (unOk_spec hun k)⟩
                rw [e3 v,List.mem_cons]
                exact ⟨fun h=>h.symm,fun h=>h.symm⟩
              · cases g1
            · rename_i hw
              rw [hw]
              split at g1
              · rename_i mem' nx' c1 hqa hx2
                simp only [Option.some.injEq,Prod.mk.injEq] at g1
                obtain ⟨rfl,rfl⟩:=g1
                obtain ⟨e1,e2⟩:=quietA_same hx2 hqa
                rw [e1,e2] at hx2
                exact .inr ⟨hg,.inl (xop2_sound hT hx2 g2.1)⟩
              · cases g1
          · cases h
        · cases h
      · cases h
theorem uc {i:Nat}{K:Fr->Prop}{fr:Fr}{f:Nat}{args:List SV}{sv:SV}(hp:Pub P f args (fun t=>t=sv))(hk:UO P N m ops nx sg ws bf (i + 1) K (putO fr (dstAt ops i) sv))
    (h:qcallAt ops fr i=some (f,args,dstAt ops i):=by kernel_rfl) (hno:hasN ws i=false:=by kernel_rfl) (hb:bdL 0 args=true:=by kernel_rfl):UO P N m ops nx sg ws bf i K fr:=by
  unfold qcallAt at h
  split at h
  · rename_i o ho
    split at h
    · rename_i f' args2 hg hca
      simp only [Option.some.injEq,Prod.mk.injEq] at h
      obtain ⟨rfl,rfl,e⟩:=h
      rw [<- e] at hk
      refine u_step ho ?_ hk
      intro k _ _
      rw [hno]
      exact .inr ⟨hg,.inr ⟨f',args2,hca,xcall_pub hp (WkL.refl _) hb (fun _ hs=>⟨hs,rfl,rfl⟩)⟩⟩
    · cases h
  · cases h
theorem UAll.congr:∀ {i:Nat} {l:List Oper} {ss:List SV} {fr fr':Fr},(∀ t,fnd fr t=fnd fr' t)->UAll P N m ops nx sg ws bf i l ss fr->UAll P N m ops nx sg ws bf i l ss fr'
  | _,[],[],_,_,_,_=>trivial
  | _,[],_ :: _,_,_,_,h=>h.elim
  | _,_ :: _,[],_,_,_,h=>h.elim
  | i,o :: l,s :: ss,fr,fr',hf,h=>by
    obtain ⟨h1,h2⟩:=h
    refine ⟨?_,UAll.congr (putO_congr hf o.dst s) h2⟩
    unfold UStep QStep at *
    rw [<- rs_congr hf]; exact h1
theorem u_same {i:Nat}{K:Fr->Prop}{fr:Fr}{d:Nat}{x:SV}(hd:fnd fr d=some x)(key:UO P N m ops nx sg ws bf i K ((d,x) :: fr)):UO P N m ops nx sg ws bf i K fr:=by
  obtain ⟨ss,fr2,h1,h2,h3⟩:=key
  have hsame:∀ t,fnd ((d,x) :: fr) t=fnd fr t:=fun t=>by
    rw [fnd_cons]
    split
    · rename_i e; subst e; exact hd.symm
    · rfl
  exact ⟨ss,fr2,h1.congr hsame,fun t s h=>by rw [<- lexFr_congr _ ss hsame t]; exact h2 t s h,h3⟩
theorem usets {i:Nat}{K:Fr->Prop}{fr:Fr}(d:Nat){x:Bool}{z:Nat}{L L':List SV}(hd:fnd fr d=some (.sl x z L))(e:L=L')(h:UO P N m ops nx sg ws bf i K ((d,.sl x z L') :: fr)):UO P N m ops nx sg ws bf i K fr:=by
  subst e; exact u_same hd h
theorem ureg (hmix:P.follows .mixedOrders=true){id:Nat}{K:XE->St->Prop}{s:St}(un0:List Nat)(sg:List Stg)(ws:List Nat)(bf:List (Nat×List Nat))(e:Nat)(nx:Nat)(h0:stAt sg 0=⟨s.mem,[],un0⟩)
    (h:UO P N s.nx ops nx sg ws bf 0 (fun fr2=>K .normal ⟨fr2,(stAt sg e).mem,nx⟩) s.fr)
    (hd:drawOk N ops=true:=by kernel_rfl) (hbf:bfOk ops bf=true:=by kernel_rfl) (hwr:ws.all (fun i=>Nat.blt i ops.size)=true:=by kernel_rfl) (hs0:Nat.blt 0 sg.length=true:=by kernel_rfl) (hnx:Nat.ble s.nx nx=true:=by kernel_rfl)
    (hun0:un0.all (fun r=>Nat.ble s.nx r)=true:=by kernel_rfl) (hun:unOk sg nx=true:=by kernel_rfl) (hfin:finOk sg ws e=true:=by kernel_rfl):XW rd P N n0 (.region id ops true) K s:=by
  obtain ⟨ss,fr2,h1,h2,h3⟩:=h
  rw [List.drop_zero] at h1 h2
  obtain ⟨fr,mem,nx0⟩:=s
  exact xw_ucore hmix sg ws bf ss e hd hbf hwr h0 (by simpa using hs0) (Nat.le_of_ble_eq_true hnx) (fun r hr=>by
    have:=List.all_eq_true.1 hun0 r hr
    exact Nat.le_of_ble_eq_true this) (unOk_spec hun) hfin h1 h2 h3
end
end Go.Proofs.YtmmfpkkamgapkaaGreat.X
