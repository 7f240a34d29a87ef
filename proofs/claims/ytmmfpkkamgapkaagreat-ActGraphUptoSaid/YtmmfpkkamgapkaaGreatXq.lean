/- Entering and leaving,for proofs that are printed. -/
import Derived.Test.YtmmfpkkamgapkaaGreatXk
namespace Go.Proofs.YtmmfpkkamgapkaaGreat.X
open Go Go.RowKit
def Le (N n0:Nat)(s s':St):Prop:=∀ Γ ρ w a,n0<=s.nx->Ok Γ ρ N s w a->∃ ρ',Env.same n0 ρ ρ'/\n0<=s'.nx/\Ok Γ ρ' N s' w a/\∀ b,Owned ρ' s'.mem b->Owned ρ s.mem b
theorem Le.refl (N n0:Nat)(s:St):Le N n0 s s:=fun _ ρ _ _ hn hok=>⟨ρ,Env.same_refl _ _,hn,hok,fun _ h=>h⟩
theorem Le.trans {N n0:Nat}{a b c:St}(h:Le N n0 a b)(k:Le N n0 b c):Le N n0 a c:=fun Γ ρ w x hn hok=>by
 obtain ⟨ρ1,h1,h2,h3,h4⟩:=h Γ ρ w x hn hok
 obtain ⟨ρ2,k1,k2,k3,k4⟩:=k Γ ρ1 w x h2 h3
 exact ⟨ρ2,Env.same_trans h1 k1,k2,k3,fun b hb=>h4 b (k4 b hb)⟩
theorem Le.nxt {n0:Nat}{s s':St}{Γ:Gh}{ρ ρ':Env}{w:World}(h1:Env.same n0 ρ ρ')(h2:n0<=s'.nx)(h4:∀ b,Owned ρ' s'.mem b->Owned ρ s.mem b):Nxt n0 Γ ρ s w Γ ρ' s' w :=
 ⟨⟨rfl,rfl,rfl,Nat.le_refl _,fun _ _ _=>rfl,fun b hb=>.inl (h4 b hb)⟩,Gh.le_refl _,h1,h2,fun _ hb=>.inl hb⟩
section
variable {rd:Option Nat} {P:Program} {N n0:Nat}
theorem xw_le {c:Code}{K:XE->St->Prop}{s s':St}(h:Le N n0 s s')(hx:XW rd P N n0 c K s'):XW rd P N n0 c K s:=fun Γ ρ w a hn hok=>by
 obtain ⟨ρ',h1,h2,h3,h4⟩:=h Γ ρ w a hn hok
 exact wpIn_mono (hx Γ ρ' w a h2 h3) (fun _ _ _ q=>q.weaken (Le.nxt h1 h2 h4))
theorem xo_le {ops:Array Oper}{l:List Oper}{K:St->Prop}{s s':St}(h:Le N n0 s s')(hx:XO rd P N n0 ops l K s'):XO rd P N n0 ops l K s:=fun Γ ρ w a Q hn hok hQ=>by
 obtain ⟨ρ',h1,h2,h3,h4⟩:=h Γ ρ w a hn hok
 exact hx Γ ρ' w a Q h2 h3 (fun Γ₂ ρ₂ s₂ w₂ a₂ g1 g2 g3=>hQ Γ₂ ρ₂ s₂ w₂ a₂ g1 ((Le.nxt h1 h2 h4).trans g2) g3)
def sg (n0:Nat)(σ:List (Nat×Nat))(r:Nat):Nat:=match Nat.blt r n0 with
 | true=>r
 | false=>match fnd σ r with
  | some o=>o
  | none=>r
mutual
def wkc (n0:Nat)(σ:List (Nat×Nat)):SV->SV->Option (List Prop)
 | .int k n,.int k' m=>match k,k' with
  | .i64,.i64=>some [n=m]
  | .u64,.u64=>some [n=m]
  | .u8,.u8=>some [n=m]
  | .i32,.i32=>some [n=m]
  | .u16,.u16=>some [n=m]
  | .i16,.i16=>some [n=m]
  | _,_=>none
 | .bool b,.bool c=>some [b=c]
 | .loc r o,.loc r' o'=>match Nat.beq r (sg n0 σ r'),Nat.beq o o' with
  | true,true=>some []
  | _,_=>none
 | .own r,.own r'=>match Nat.beq r (sg n0 σ r') with
  | true=>some []
  | false=>none
 | .nils,.nils=>some []
 | .nils,.sl _ _ ys=>some [ys=[]]
 | .sl x z xs,.sl y z' ys=>match Nat.beq z z' with
  | true=>some [(y=true->x=true),xs=ys]
  | false=>none
 | .agg l,.agg m=>wkcL n0 σ l m
 | .tup l,.tup m=>wkcL n0 σ l m
 | .fn f a c,.fn f' a' c'=>match Nat.beq f f',wkcL n0 σ a a',wkcL n0 σ c c' with
  | true,some x,some y=>some (x++y)
  | _,_,_=>none
 | .raw u,.raw v=>some [u=v]
 | .elt x,.elt y=>some [x=y]
 | .any,.any=>some []
 | s,.any=>match s.single with
  | true=>some []
  | false=>none
 | _,.junk=>some []
 | _,_=>none
def wkcL (n0:Nat)(σ:List (Nat×Nat)):List SV->List SV->Option (List Prop)
 | [],[]=>some []
 | s :: l,t :: m=>match wkc n0 σ s t,wkcL n0 σ l m with
  | some x,some y=>some (x++y)
  | _,_=>none
 | _,_=>none
end
theorem All.append {a b:List Prop}(h:All (a++b)):All a/\All b:=by
 induction a with
 | nil=>exact ⟨trivial,h⟩
 | cons x a ih=>obtain ⟨h1,h2⟩:=h; exact ⟨⟨h1,(ih h2).1⟩,(ih h2).2⟩
def Env.via (ρ:Env)(n0:Nat)(σ:List (Nat×Nat)):Env:=⟨fun r=>ρ.blk (sg n0 σ r),fun r=>ρ.val (sg n0 σ r)⟩
theorem Env.via_same (ρ:Env)(n0:Nat)(σ:List (Nat×Nat)):Env.same n0 ρ (ρ.via n0 σ):=fun r hr=>by
 have:Nat.blt r n0=true:=by simpa using hr
 simp [Env.via,sg,this]
mutual
theorem wkc_sound {Γ:Gh}{ρ:Env}{σ:List (Nat×Nat)} : ∀ (s t:SV) (v:Value) (ks:List Prop),wkc n0 σ s t=some ks->All ks->Den Γ ρ s v->Den Γ (ρ.via n0 σ) t v
 | .int k n,t,v,ks,h,hk,hd=>by
  cases t <;> simp only [wkc] at h <;> first | (cases h; done) | skip
  ·rename_i k' m
   split at h <;> first | (cases h; done) | skip
   all_goals (cases h; obtain ⟨rfl,_⟩:=hk; simpa only [Den] using hd)
  ·split at h
   ·have:=hd.single rfl; simpa only [Den] using this
   ·cases h
  ·simp only [Den]
 | .bool b,t,v,ks,h,hk,hd=>by
  cases t <;> simp only [wkc] at h <;> first | (cases h; done) | skip
  ·cases h; obtain ⟨rfl,_⟩:=hk; simpa only [Den] using hd
  ·split at h
   ·have:=hd.single rfl; simpa only [Den] using this
   ·cases h
  ·simp only [Den]
 | .loc r o,t,v,ks,h,hk,hd=>by
  cases t <;> simp only [wkc] at h <;> first | (cases h; done) | skip
  ·split at h
   ·rename_i h1 h2
    have h1:=Nat.eq_of_beq_eq_true h1; have h2:=Nat.eq_of_beq_eq_true h2
    subst h2
    simp only [Den,Env.via] at hd ⊢
    rw [<- h1]; exact hd
   ·cases h
  ·split at h
   ·have:=hd.single rfl; simpa only [Den] using this
   ·cases h
  ·simp only [Den]
 | .own r,t,v,ks,h,hk,hd=>by
  cases t <;> simp only [wkc] at h <;> first | (cases h; done) | skip
  ·split at h
   ·rename_i h1
    have h1:=Nat.eq_of_beq_eq_true h1
    simp only [Den,Env.via] at hd ⊢
    rw [<- h1]; exact hd
   ·cases h
  ·split at h
   ·have:=hd.single rfl; simpa only [Den] using this
   ·cases h
  ·simp only [Den]
 | .nils,t,v,ks,h,hk,hd=>by
  cases t <;> simp only [wkc] at h <;> first | (cases h; done) | skip
  ·simpa only [Den] using hd
  ·cases h; obtain ⟨rfl,_⟩:=hk
   simp only [Den] at hd ⊢
   exact .inl ⟨none,hd,trivial⟩
  ·split at h
   ·have:=hd.single rfl; simpa only [Den] using this
   ·cases h
  ·simp only [Den]
 | .sl x z xs,t,v,ks,h,hk,hd=>by
  cases t <;> simp only [wkc] at h <;> first | (cases h; done) | skip
  ·split at h
   ·rename_i hz
    have hz:=Nat.eq_of_beq_eq_true hz
    cases h
    obtain ⟨hy,rfl,_⟩:=hk
    subst hz
    simp only [Den] at hd ⊢
    exact hd.imp id fun ⟨b,off,cap,cs,h1,h2,h3,h4⟩=>⟨b,off,cap,cs,h1,h2,fun e=>h3 (hy e),h4⟩
   ·cases h
  ·split at h
   ·have:=hd.single rfl; simpa only [Den] using this
   ·cases h
  ·simp only [Den]
 | .agg l,t,v,ks,h,hk,hd=>by
  cases t <;> simp only [wkc] at h <;> first | (cases h; done) | skip
  ·simp only [Den] at hd ⊢
   obtain ⟨vs,e,hd⟩:=hd
   exact ⟨vs,e,wkcL_sound l _ vs.toList ks h hk hd⟩
  ·simp only [Den]
 | .tup l,t,v,ks,h,hk,hd=>by
  cases t <;> simp only [wkc] at h <;> first | (cases h; done) | skip
  ·simp only [Den] at hd ⊢
   obtain ⟨vs,e,hd⟩:=hd
   exact ⟨vs,e,wkcL_sound l _ vs.toList ks h hk hd⟩
  ·simp only [Den]
 | .fn f a c,t,v,ks,h,hk,hd=>by
  cases t <;> simp only [wkc] at h <;> first | (cases h; done) | skip
  ·split at h
   ·rename_i x y hf hx hy
    have hf:=Nat.eq_of_beq_eq_true hf
    subst hf
    cases h
    obtain ⟨h1,h2⟩:=All.append hk
    simp only [Den] at hd ⊢
    obtain ⟨va,vc,e,d1,d2⟩:=hd
    exact ⟨va,vc,e,wkcL_sound a _ va.toList _ hx h1 d1,wkcL_sound c _ vc.toList _ hy h2 d2⟩
   ·cases h
  ·split at h
   ·have:=hd.single rfl; simpa only [Den] using this
   ·cases h
  ·simp only [Den]
 | .raw u,t,v,ks,h,hk,hd=>by
  cases t <;> simp only [wkc] at h <;> first | (cases h; done) | skip
  ·cases h; obtain ⟨rfl,_⟩:=hk; simpa only [Den] using hd
  ·split at h
   ·have:=hd.single rfl; simpa only [Den] using this
   ·cases h
  ·simp only [Den]
 | .elt x,t,v,ks,h,hk,hd=>by
  cases t <;> simp only [wkc] at h <;> first | (cases h; done) | skip
  ·cases h; obtain ⟨rfl,_⟩:=hk; simpa only [Den] using hd
  ·split at h
   ·have:=hd.single rfl; simpa only [Den] using this
   ·cases h
  ·simp only [Den]
 | .any,t,v,ks,h,hk,hd=>by
  cases t <;> simp only [wkc] at h <;> first | (cases h; done) | skip
  ·simpa only [Den] using hd
  ·simp only [Den]
 | .relt _ _ _ _,t,v,ks,h,hk,hd=>by
  cases t <;> simp only [wkc] at h <;> first | (cases h; done) | skip
  ·split at h
   ·have:=hd.single rfl; simpa only [Den] using this
   ·cases h
  ·simp only [Den]
 | .osub _ _ _ _,t,v,ks,h,hk,hd=>by
  cases t <;> simp only [wkc] at h <;> first | (cases h; done) | skip
  ·split at h
   ·have:=hd.single rfl; simpa only [Den] using this
   ·cases h
  ·simp only [Den]
 | .junk,t,v,ks,h,hk,hd=>by
  cases t <;> simp only [wkc] at h <;> first | (cases h; done) | skip
  ·simp only [Den]
theorem wkcL_sound {Γ:Gh}{ρ:Env}{σ:List (Nat×Nat)} : ∀ (l m:List SV) (vs:List Value) (ks:List Prop),wkcL n0 σ l m=some ks->All ks->DenL Γ ρ l vs->DenL Γ (ρ.via n0 σ) m vs
 | [],[],vs,ks,_,_,hd=>by simpa only [DenL] using hd
 | [],_ :: _,_,_,h,_,_=>by simp [wkcL] at h
 | _ :: _,[],_,_,h,_,_=>by simp [wkcL] at h
 | s :: l,t :: m,vs,ks,h,hk,hd=>by
  simp only [wkcL] at h
  split at h
  ·rename_i x y hx hy
   cases h
   obtain ⟨h1,h2⟩:=All.append hk
   simp only [DenL] at hd ⊢
   obtain ⟨v,r,e,d1,d2⟩:=hd
   exact ⟨v,r,e,wkc_sound s t v x hx h1 d1,wkcL_sound l m r y hy h2 d2⟩
  ·cases h
end
def leFr (n0:Nat)(σ:List (Nat×Nat))(nx':Nat)(fr:Fr):Fr->Option (List Prop)
 | []=>some []
 | (d,t) :: l=>match (match fnd fr d with | some x=>wkc n0 σ x t | none=>(match t with | .junk=>some [] | _=>none)),t.bd nx',leFr n0 σ nx' fr l with
  | some x,true,some y=>some (x++y)
  | _,_,_=>none
def leBlk (n0:Nat)(σ:List (Nat×Nat)):Blk->Blk->Option (List Prop)
 | .cells l E,.cells m E'=>match Nat.beq E E' with
  | true=>wkcL n0 σ l m
  | false=>none
 | .row z E xs,.row z' E' ys=>match Nat.beq z z',Nat.beq E E' with
  | true,true=>some [xs=ys]
  | _,_=>none
 | .mp true k es,.mp true k' es'=>match Nat.beq (ikN k) (ikN k') with
  | true=>some [es=es']
  | false=>none
 | .lp nb q,.lp nb' q'=>match Nat.beq nb nb',Nat.ble nb n0 with
  | true,true=>some [q=q']
  | _,_=>none
 | _,_=>none
def hasKey:List (Nat×Nat)->Nat->Bool
 | [],_=>false
 | (_,o) :: l,n=>match Nat.beq o n with
  | true=>true
  | false=>hasKey l n
def leMem (n0:Nat)(σ:List (Nat×Nat))(nx':Nat)(mem:Mem):List (Nat×Nat)->Mem->Option (List Prop)
 | _,[]=>some []
 | used,(r,B) :: l=>match fnd mem (sg n0 σ r) with
  | some B0=>match leBlk n0 σ B0 B,B.bd nx',Nat.blt r nx',hasKey used (sg n0 σ r),leMem n0 σ nx' mem ((0,sg n0 σ r) :: used) l with
   | some x,true,true,false,some y=>some (x++y)
   | _,_,_,_,_=>none
  | none=>none
def lechk (n0:Nat)(σ:List (Nat×Nat))(s s':St):Option (List Prop) :=
 match leFr n0 σ s'.nx s.fr s'.fr,leMem n0 σ s'.nx s.mem [] s'.mem,Nat.ble n0 s'.nx with
 | some x,some y,true=>some (x++y)
 | _,_,_=>none
theorem leFr_sound {Γ:Gh}{ρ:Env}{σ:List (Nat×Nat)}{nx nx':Nat}{fr:Fr}{a:Act}(hf:FrDen Γ ρ nx N fr a):∀ (fr':Fr) (ks:List Prop),leFr n0 σ nx' fr fr'=some ks->All ks->∀ d s,fnd fr' d=some s->Den Γ (ρ.via n0 σ) s (a.tmps.getD d undef)/\s.bd nx'=true
 | [],_,_,_,d,s,h=>by simp [fnd] at h
 | (d',t) :: l,ks,h,hk,d,s,hd=>by
  simp only [leFr] at h
  split at h
  ·rename_i x y hx hb hy
   cases h
   obtain ⟨k1,k2⟩:=All.append hk
   rw [fnd_cons] at hd
   split at hd
   ·rename_i e; subst e; cases hd
    refine ⟨?_,hb⟩
    split at hx
    ·rename_i u hu
     exact wkc_sound u _ _ x hx k1 (hf.slot d' u hu).1
    ·split at hx
     ·simp only [Den]
     ·cases hx
   ·exact leFr_sound hf l y hy k2 d s hd
  ·cases h
theorem leBlk_sound {Γ:Gh}{ρ:Env}{σ:List (Nat×Nat)}{w:World}{r:Nat}{B0 B:Blk}{ks:List Prop}(h:leBlk n0 σ B0 B=some ks)(hk:All ks)(hB:BlkOk Γ ρ w (sg n0 σ r) B0):BlkOk Γ (ρ.via n0 σ) w r B:=by
 cases B0 with
 | cells l E =>
  cases B with
  | cells m E' =>
   simp only [leBlk] at h
   split at h
   ·rename_i he
    have he:=Nat.eq_of_beq_eq_true he
    subst he
    obtain ⟨b,arr,h1,h2,h3,h4,h5⟩:=hB
    exact ⟨b,arr,h1,h2,wkcL_sound l m _ ks h hk h3,h4,h5⟩
   ·cases h
  | row z E' ys=>simp [leBlk] at h
  | lp nb q=>simp [leBlk] at h
  | mp p k es=>simp [leBlk] at h
 | row z E xs =>
  cases B with
  | cells m E'=>simp [leBlk] at h
  | lp nb q=>simp [leBlk] at h
  | mp p k es=>simp [leBlk] at h
  | row z' E' ys =>
   simp only [leBlk] at h
   split at h
   ·rename_i h1 h2
    have h1:=Nat.eq_of_beq_eq_true h1
    have h2:=Nat.eq_of_beq_eq_true h2
    subst h1 h2
    cases h
    obtain ⟨rfl,_⟩:=hk
    exact hB
   ·cases h
 | lp nb q =>
  cases B with
  | cells m E'=>simp [leBlk] at h
  | row z' E' ys=>simp [leBlk] at h
  | mp p k es=>simp [leBlk] at h
  | lp nb' q' =>
   simp only [leBlk] at h
   split at h
   ·rename_i h1 h2
    have h1:=Nat.eq_of_beq_eq_true h1
    subst h1
    cases h
    obtain ⟨rfl,_⟩:=hk
    obtain ⟨g1,g2,tmps,dfr,g3,g4,g5⟩:=hB
    exact ⟨g1,g2,tmps,dfr,g3,g4,fun d s hd=>⟨Den.ext (Gh.le_refl _) s _ (Env.same_mono (Nat.le_of_ble_eq_true h2) (ρ.via_same n0 σ)) (g5 d s hd).2 (g5 d s hd).1,(g5 d s hd).2⟩⟩
   ·cases h
 | mp p k es =>
  cases B with
  | cells m E'=>cases p <;> simp [leBlk] at h
  | row z' E' ys=>cases p <;> simp [leBlk] at h
  | lp nb' q'=>cases p <;> simp [leBlk] at h
  | mp p' k' es' =>
   cases p <;> cases p' <;> simp only [leBlk] at h <;> first | (cases h; done) | skip
   split at h
   ·rename_i h1
    have h1:=ikN_inj h1
    subst h1
    cases h
    obtain ⟨rfl,_⟩:=hk
    exact hB
   ·cases h
theorem hasKey_false {l:List (Nat×Nat)}{n:Nat}(h:hasKey l n=false):∀ p∈l,p.2≠n:=by
 induction l with
 | nil=>simp
 | cons q l ih =>
  obtain ⟨i,o⟩:=q
  simp only [hasKey] at h
  split at h
  ·cases h
  ·rename_i hb
   intro p hp
   rcases List.mem_cons.1 hp with rfl | hp
   ·exact fun e=>by subst e; simp at hb
   ·exact ih h p hp
theorem leMem_sound {σ:List (Nat×Nat)}{nx':Nat}{mem:Mem} : ∀ (mem':Mem) (used:List (Nat×Nat)) (ks:List Prop),leMem n0 σ nx' mem used mem'=some ks->All ks ->
  (∀ r B,fnd mem' r=some B->∃ B0 ks',fnd mem (sg n0 σ r)=some B0/\leBlk n0 σ B0 B=some ks'/\All ks'/\B.bd nx'=true/\r<nx'/\∀ p∈used,p.2≠sg n0 σ r) /\
  (∀ r r' B B',fnd mem' r=some B->fnd mem' r'=some B'->sg n0 σ r=sg n0 σ r'->r=r')
 | [],used,ks,_,_=>⟨fun r B h=>by simp [fnd] at h,fun r r' B B' h=>by simp [fnd] at h⟩
 | (r0,B0) :: l,used,ks,h,hk=>by
  simp only [leMem] at h
  split at h
  ·rename_i Bo hBo
   split at h
   ·rename_i x y hx hb hlt hu hy
    cases h
    obtain ⟨k1,k2⟩:=All.append hk
    obtain ⟨g1,g2⟩:=leMem_sound l _ y hy k2
    refine ⟨fun r B hB=>?_,fun r r' B B' hB hB' e=>?_⟩
    ·rw [fnd_cons] at hB
     split at hB
     ·rename_i e; subst e; cases hB
      exact ⟨Bo,x,hBo,hx,k1,hb,by simpa using hlt,hasKey_false hu⟩
     ·obtain ⟨Bx,kx,q1,q2,q3,q4,q5,q6⟩:=g1 r B hB
      exact ⟨Bx,kx,q1,q2,q3,q4,q5,fun p hp=>q6 p (List.mem_cons_of_mem _ hp)⟩
    ·rw [fnd_cons] at hB hB'
     split at hB <;> split at hB'
     ·omega
     ·rename_i e1 e2
      subst e1
      obtain ⟨_,_,_,_,_,_,_,q6⟩:=g1 r' B' hB'
      exact absurd e (q6 (0,sg n0 σ r0) (by simp))
     ·rename_i e1 e2
      subst e2
      obtain ⟨_,_,_,_,_,_,_,q6⟩:=g1 r B hB
      exact absurd e.symm (q6 (0,sg n0 σ r0) (by simp))
     ·exact g2 r r' B B' hB hB' e
   ·cases h
  ·cases h
theorem le_of (σ:List (Nat×Nat)){s s':St}(ks:List Prop)(h:lechk n0 σ s s'=some ks)(hk:All ks):Le N n0 s s':=by
 unfold lechk at h
 split at h
 ·rename_i x y hx hy hn
  cases h
  obtain ⟨k1,k2⟩:=All.append hk
  obtain ⟨g1,g2⟩:=leMem_sound s'.mem [] y hy k2
  intro Γ ρ w a hn0 hok
  refine ⟨ρ.via n0 σ,ρ.via_same n0 σ,Nat.le_of_ble_eq_true hn,⟨⟨hok.inv.pub,fun r B hB=>?_,fun r r' b B B' hB hB' hb hb'=>?_⟩,hok.marks,hok.frame.size,leFr_sound hok.frame s'.fr x hx k1⟩,?_⟩
  ·obtain ⟨B0,ks',q1,q2,q3,q4,q5,_⟩:=g1 r B hB
   exact ⟨leBlk_sound q2 q3 (hok.inv.priv _ B0 q1).1,q5,q4⟩
  ·obtain ⟨B0,_,q1,_⟩:=g1 r B hB
   obtain ⟨B0',_,q1',_⟩:=g1 r' B' hB'
   exact g2 r r' B B' hB hB' (hok.inv.inj _ _ b B0 B0' q1 q1' hb hb')
  ·rintro b ⟨r,B,hB,hb⟩
   obtain ⟨B0,_,q1,_⟩:=g1 r B hB
   exact ⟨_,B0,q1,hb⟩
 ·cases h
theorem le_nilRow (d z E:Nat){s:St}(h:fnd s.fr d=some .nils):Le N n0 s ⟨(d,.own s.nx) :: s.fr,(s.nx,.row z E []) :: s.mem,s.nx + 1⟩:=fun Γ ρ w a hn hok=>by
 have hs:=Env.add_same ρ s.nx none (some (.slice none 0 0))
 refine ⟨ρ.add s.nx none (some (.slice none 0 0)),Env.same_mono hn hs,Nat.le_succ_of_le hn,⟨⟨hok.inv.pub,fun r B hB=>?_,fun r r' c B B' hB hB' hc hc'=>?_⟩,hok.marks,hok.frame.size,fun d' s' hd=>?_⟩,?_⟩
 ·rw [fnd_cons] at hB
  split at hB
  ·rename_i e; subst e; cases hB
   exact ⟨⟨_,Env.add_val _ _ _ _,.inl ⟨rfl,rfl,Env.add_blk _ _ _ _⟩⟩,Nat.lt_succ_self _,rfl⟩
  ·obtain ⟨h1,h2,h3⟩:=hok.inv.priv r B hB
   exact ⟨h1.move (Gh.le_refl _) hs h2 h3 (fun c hc=>⟨rfl,id⟩),Nat.lt_succ_of_lt h2,B.bd_mono (Nat.le_succ _) h3⟩
 ·rw [fnd_cons] at hB hB'
  split at hB <;> split at hB'
  ·omega
  ·rename_i e e'; subst e; rw [Env.add_blk] at hc; cases hc
  ·rename_i e e'; subst e'; rw [Env.add_blk] at hc'; cases hc'
  ·rw [(hs r (hok.inv.priv r B hB).2.1).1] at hc
   rw [(hs r' (hok.inv.priv r' B' hB').2.1).1] at hc'
   exact hok.inv.inj r r' c B B' hB hB' hc hc'
 ·rw [fnd_cons] at hd
  split at hd
  ·rename_i e; subst e; cases hd
   have:=(hok.frame.slot d .nils h).1
   simp only [Den] at this ⊢
   rw [this]
   exact ⟨⟨Env.add_val _ _ _ _,rfl⟩,by simp [SV.bd]⟩
  ·have:=hok.frame.slot d' s' hd
   exact ⟨Den.ext (Gh.le_refl _) s' _ hs this.2 this.1,SV.bd_mono (Nat.le_succ _) s' this.2⟩
 ·rintro c ⟨r,B,hB,hc⟩
  rw [fnd_cons] at hB
  split at hB
  ·rename_i e; subst e; rw [Env.add_blk] at hc; cases hc
  ·rw [(hs r (hok.inv.priv r B hB).2.1).1] at hc
   exact ⟨r,B,hB,hc⟩
theorem wp_loop_ix {α:Type}{c:Code}{Q:Exit->Act->World->Prop}(I:α->Act->World->Prop)(μ:α->Nat){x0:α}{a:Act}{w:World}(h0:I x0 a w)
  (round:∀ x a w,I x a w->c.wpIn (fnc rd) 0 P (Exit.then (fun a' w'=>∃ y,I y a' w'/\μ y<μ x) Q) a w):(Code.loop c).wpIn (fnc rd) 0 P Q a w:=by
 intro b k cs hro hb hr
 have key:∀ n x a w,μ x=n->I x a w->∃ e a' w',Q e a' w'/\ArrivesIn (Machine.fenced P (fnc rd)) P (lone (b.atR a (.code c :: .inLoop c :: k)) cs w) b k cs e a' w':=by
  intro n
  induction n using Nat.strongRecOn with
  | _ n ih =>
   intro x a w hn hI
   obtain ⟨e,a₁,w₁,hq,harr⟩:=round x a w hI b (.inLoop c :: k) cs hro hb hr
   cases e with
   | normal =>
    obtain ⟨y,hI₁,hlt⟩:=hq
    obtain ⟨e₂,a₂,w₂,hq₂,harr₂⟩:=ih (μ y) (hn ▸ hlt) y a₁ w₁ rfl hI₁
    exact ⟨e₂,a₂,w₂,hq₂,.of_steps (StepsIn.trans harr (.one (fenced_calm hb hr rfl) stepR_inLoop)) harr₂⟩
   | exit id=>exact ⟨_,a₁,w₁,hq,.pass (x:=.inLoop c) rfl (fun _ _=>.inl (by simp)) harr⟩
   | goto l=>exact ⟨_,a₁,w₁,hq,.pass (x:=.inLoop c) rfl (fun _ _=>.inl (by simp)) harr⟩
   | ret=>exact ⟨_,a₁,w₁,hq,.pass (x:=.inLoop c) rfl (fun _ _=>.inl (by simp)) harr⟩
   | panic ch=>exact ⟨_,a₁,w₁,hq,.pass (x:=.inLoop c) rfl (fun _ _=>.inl (by simp)) harr⟩
   | outgrown=>exact ⟨_,a₁,w₁,hq,.pass (x:=.inLoop c) rfl (fun _ _=>.inl (by simp)) harr⟩
 obtain ⟨e,a',w',hq,harr⟩:=key _ x0 a w rfl h0
 exact ⟨e,a',w',hq,.of_steps (.one (fenced_calm hb hr rfl) stepR_loop) harr⟩
def Again {α:Type}(N n0:Nat)(I:α->St)(μ:α->Nat)(x:α)(K:XE->St->Prop):XE->St->Prop
 | .normal,s=>∃ y,Le N n0 s (I y)/\μ y<μ x
 | e,s=>K e s
theorem xw_loop {α:Type}{c:Code}{K:XE->St->Prop}{s:St}(I:α->St)(μ:α->Nat)(x0:α)(h0:Le N n0 s (I x0))(round:∀ x,XW rd P N n0 c (Again N n0 I μ x K) (I x)):XW rd P N n0 (.loop c) K s:=by
 intro Γ ρ w a hn hok
 refine wp_loop_ix (fun x a' w'=>∃ Γ' ρ',Ok Γ' ρ' N (I x) w' a'/\Nxt n0 Γ ρ s w Γ' ρ' (I x) w') μ (x0:=x0) ?_ ?_
 ·obtain ⟨ρ',h1,h2,h3,h4⟩:=h0 Γ ρ w a hn hok
  exact ⟨Γ,ρ',h3,Le.nxt h1 h2 h4⟩
 ·rintro x a' w' ⟨Γ',ρ',hok',hnx⟩
  refine wpIn_mono (round x Γ' ρ' w' a' hnx.nx hok') ?_
  rintro e a₂ w₂ ⟨xe,Γ₂,ρ₂,s₂,rfl,h2,h3,h4⟩
  cases xe with
  | normal =>
   obtain ⟨y,hle,hlt⟩:=h4
   obtain ⟨ρ₃,g1,g2,g3,g4⟩:=hle Γ₂ ρ₂ w₂ a₂ h3.nx h2
   exact ⟨y,⟨Γ₂,ρ₃,g3,(hnx.trans h3).trans (Le.nxt g1 g2 g4)⟩,hlt⟩
  | exit i=>exact ⟨.exit i,Γ₂,ρ₂,s₂,rfl,h2,hnx.trans h3,h4⟩
  | goto l=>exact ⟨.goto l,Γ₂,ρ₂,s₂,rfl,h2,hnx.trans h3,h4⟩
  | ret=>exact ⟨.ret,Γ₂,ρ₂,s₂,rfl,h2,hnx.trans h3,h4⟩
theorem wp_scope_ix {α:Type}{c rest:Code}{Q:Exit->Act->World->Prop}(l:Nat)(J:α->Act->World->Prop)(μ:α->Nat)(hf:findLabel c l=some rest){a:Act}{w:World}
  (first:c.wp P (Exit.jump l (fun a w=>∃ x,J x a w) Q) a w)
  (pass:∀ x a w,J x a w->rest.wp P (Exit.jump l (fun a' w'=>∃ y,J y a' w'/\μ y<μ x) Q) a w):(Code.scope c).wp P Q a w:=by
 intro b k cs
 have hg:gotoIn l (.inScope c :: k)=some (.code rest :: .inScope c :: k):=by simp [gotoIn,hf]
 have key:∀ n x a w,μ x=n->J x a w->∃ e a' w',Q e a' w'/\Arrives P (lone (b.at a (.code rest :: .inScope c :: k)) cs w) b k cs e a' w':=by
  intro n
  induction n using Nat.strongRecOn with
  | _ n ih =>
   intro x a w hn hJ
   obtain ⟨e,a₁,w₁,hq,harr⟩:=pass x a w hJ b (.inScope c :: k) cs
   cases e with
   | normal=>exact ⟨.normal,a₁,w₁,hq,Steps.trans harr (.one step_inScope)⟩
   | exit id=>exact ⟨.exit id,a₁,w₁,hq,fun k' hk=>harr k' (by simp [exitTo,hk])⟩
   | goto l' =>
    obtain ⟨rfl,y,hJ',hlt⟩:=hq
    obtain ⟨e₂,a₂,w₂,hq₂,harr₂⟩:=ih (μ y) om y a₁ w₁ rfl hJ'
    exact ⟨e₂,a₂,w₂,hq₂,.of_steps (harr _ hg) harr₂⟩
   | ret=>exact ⟨_,a₁,w₁,hq,harr⟩
   | panic ch=>exact ⟨_,a₁,w₁,hq,harr⟩
   | outgrown=>exact ⟨_,a₁,w₁,hq,harr⟩
 obtain ⟨e,a₁,w₁,hq,harr⟩:=first b (.inScope c :: k) cs
 cases e with
 | normal=>exact ⟨.normal,a₁,w₁,hq,.head step_scope (Steps.trans harr (.one step_inScope))⟩
 | exit id=>exact ⟨.exit id,a₁,w₁,hq,fun k' hk=>.head step_scope (harr k' (by simp [exitTo,hk]))⟩
 | goto l' =>
  obtain ⟨rfl,y,hJ'⟩:=hq
  obtain ⟨e₂,a₂,w₂,hq₂,harr₂⟩:=key _ y a₁ w₁ rfl hJ'
  exact ⟨e₂,a₂,w₂,hq₂,.of_steps (.head step_scope (harr _ hg)) harr₂⟩
 | ret=>exact ⟨_,a₁,w₁,hq,.of_steps (.one step_scope) harr⟩
 | panic ch=>exact ⟨_,a₁,w₁,hq,.of_steps (.one step_scope) harr⟩
 | outgrown=>exact ⟨_,a₁,w₁,hq,.of_steps (.one step_scope) harr⟩
def Jump0 {α:Type}(N n0:Nat)(l:Nat)(I:α->St)(K:XE->St->Prop):XE->St->Prop
 | .goto l',s=>l'=l/\∃ y,Le N n0 s (I y)
 | e,s=>K e s
def Jump {α:Type}(N n0:Nat)(l:Nat)(I:α->St)(μ:α->Nat)(x:α)(K:XE->St->Prop):XE->St->Prop
 | .goto l',s=>l'=l/\∃ y,Le N n0 s (I y)/\μ y<μ x
 | e,s=>K e s
theorem xw_scope {α:Type}{c rest:Code}{K:XE->St->Prop}{s:St}(l:Nat)(hf:findLabel c l=some rest)(I:α->St)(μ:α->Nat)(first:XW none P N n0 c (Jump0 N n0 l I K) s)(pass:∀ x,XW none P N n0 rest (Jump N n0 l I μ x K) (I x)):XW none P N n0 (.scope c) K s:=by
 intro Γ ρ w a hn hok
 refine (wpIn_wide (n:=0)).2 (wp_scope_ix l (fun x a' w'=>∃ Γ' ρ',Ok Γ' ρ' N (I x) w' a'/\Nxt n0 Γ ρ s w Γ' ρ' (I x) w') μ hf ?_ ?_)
 ·refine wp_mono ((wpIn_wide (n:=0)).1 (first Γ ρ w a hn hok)) ?_
  rintro e a₂ w₂ ⟨xe,Γ₂,ρ₂,s₂,rfl,h2,h3,h4⟩
  cases xe with
  | normal=>exact ⟨.normal,Γ₂,ρ₂,s₂,rfl,h2,h3,h4⟩
  | exit i=>exact ⟨.exit i,Γ₂,ρ₂,s₂,rfl,h2,h3,h4⟩
  | goto l' =>
   obtain ⟨rfl,y,hle⟩:=h4
   obtain ⟨ρ₃,g1,g2,g3,g4⟩:=hle Γ₂ ρ₂ w₂ a₂ h3.nx h2
   exact ⟨rfl,y,Γ₂,ρ₃,g3,h3.trans (Le.nxt g1 g2 g4)⟩
  | ret=>exact ⟨.ret,Γ₂,ρ₂,s₂,rfl,h2,h3,h4⟩
 ·rintro x a' w' ⟨Γ',ρ',hok',hnx⟩
  refine wp_mono ((wpIn_wide (n:=0)).1 (pass x Γ' ρ' w' a' hnx.nx hok')) ?_
  rintro e a₂ w₂ ⟨xe,Γ₂,ρ₂,s₂,rfl,h2,h3,h4⟩
  cases xe with
  | normal=>exact ⟨.normal,Γ₂,ρ₂,s₂,rfl,h2,hnx.trans h3,h4⟩
  | exit i=>exact ⟨.exit i,Γ₂,ρ₂,s₂,rfl,h2,hnx.trans h3,h4⟩
  | goto l' =>
   obtain ⟨rfl,y,hle,hlt⟩:=h4
   obtain ⟨ρ₃,g1,g2,g3,g4⟩:=hle Γ₂ ρ₂ w₂ a₂ h3.nx h2
   exact ⟨rfl,y,⟨Γ₂,ρ₃,g3,(hnx.trans h3).trans (Le.nxt g1 g2 g4)⟩,hlt⟩
  | ret=>exact ⟨.ret,Γ₂,ρ₂,s₂,rfl,h2,hnx.trans h3,h4⟩
end
def rs (fr:Fr):List Nat->Fr
  | []=>[]
  | t :: l=>match fnd fr t with
    | some s=>(t,s) :: rs fr l
    | none=>rs fr l
theorem fnd_rs (fr:Fr):∀ (l:List Nat) (t:Nat) (s:SV),fnd (rs fr l) t=some s->t∈l/\fnd fr t=some s
  | [],t,s,h=>by simp [rs,fnd] at h
  | u :: l,t,s,h=>by
    simp only [rs] at h
    split at h
    · rename_i x hx
      rw [fnd_cons] at h
      split at h
      · rename_i e; subst e; cases h; exact ⟨by simp,hx⟩
      · obtain ⟨h1,h2⟩:=fnd_rs fr l t s h; exact ⟨by simp [h1],h2⟩
    · obtain ⟨h1,h2⟩:=fnd_rs fr l t s h; exact ⟨by simp [h1],h2⟩
theorem rs_congr {fr fr':Fr}(h:∀ t,fnd fr t=fnd fr' t):∀ l,rs fr l=rs fr' l
  | []=>rfl
  | t :: l=>by simp only [rs,h t,rs_congr h l]
def putO (fr:Fr)(d:Option Nat)(s:SV):Fr:=match d with
  | some d=>(d,s) :: fr
  | none=>fr
theorem putO_congr {fr fr':Fr}(h:∀ t,fnd fr t=fnd fr' t)(d:Option Nat)(s:SV):∀ t,fnd (putO fr d s) t=fnd (putO fr' d s) t:=fun t=>by
  cases d with
  | none=>exact h t
  | some d=>simp only [putO,fnd_cons,h t]
def lexFr (fr:Fr):List Oper->List SV->Fr
  | o :: l,s :: ss=>lexFr (putO fr o.dst s) l ss
  | _,_=>fr
theorem lexFr_congr:∀ (l:List Oper) (ss:List SV) {fr fr':Fr},(∀ t,fnd fr t=fnd fr' t)->∀ t,fnd (lexFr fr l ss) t=fnd (lexFr fr' l ss) t
  | [],_,_,_,h,t=>by simpa [lexFr] using h t
  | _ :: _,[],_,_,h,t=>by simpa [lexFr] using h t
  | o :: l,s :: ss,_,_,h,t=>by simp only [lexFr]; exact lexFr_congr l ss (putO_congr h o.dst s) t
section
variable {rd:Option Nat} {P:Program} {T:Tab} {N n0:Nat} {ops:Array Oper} {mem:Mem} {nx:Nat}
def QStep (P:Program)(N:Nat)(ops:Array Oper)(mem:Mem)(nx:Nat)(fr:Fr)(o:Oper)(sv:SV):Prop :=
  (gd ops (rs fr (o.looksAt ops)) o.guard=some false/\sv = .tup []) \/
  (gd ops (rs fr (o.looksAt ops)) o.guard=some true /\
    (OpOk P N (rs fr (o.looksAt ops)) mem nx o sv mem nx \/
     ∃ f args,callee (rs fr (o.looksAt ops)) o.op=some (f,args)/\XCall P f args mem nx fun s m n=>s=sv/\m=mem/\n=nx))
def QAll (P:Program)(N:Nat)(ops:Array Oper)(mem:Mem)(nx:Nat):List Oper->List SV->Fr->Prop
  | [],[],_=>True
  | o :: l,s :: ss,fr=>QStep P N ops mem nx fr o s/\QAll P N ops mem nx l ss (putO fr o.dst s)
  | _,_,_=>False
theorem QAll.congr:∀ {l:List Oper} {ss:List SV} {fr fr':Fr},(∀ t,fnd fr t=fnd fr' t)->QAll P N ops mem nx l ss fr->QAll P N ops mem nx l ss fr'
  | [],[],_,_,_,_=>trivial
  | [],_ :: _,_,_,_,h=>h.elim
  | _ :: _,[],_,_,_,h=>h.elim
  | o :: l,s :: ss,fr,fr',hf,h=>by
    obtain ⟨h1,h2⟩:=h
    refine ⟨?_,QAll.congr (putO_congr hf o.dst s) h2⟩
    unfold QStep at *
    rw [<- rs_congr hf]; exact h1
theorem QAll.len:∀ {l:List Oper} {ss:List SV} {fr:Fr},QAll P N ops mem nx l ss fr->ss.length=l.length
  | [],[],_,_=>rfl
  | [],_ :: _,_,h=>h.elim
  | _ :: _,[],_,h=>h.elim
  | o :: l,s :: ss,fr,h=>by simp [QAll.len h.2]
theorem QAll.at:∀ {l:List Oper} {ss:List SV} {fr:Fr},QAll P N ops mem nx l ss fr->∀ i o s,l[i]? = some o->ss[i]? = some s->QStep P N ops mem nx (lexFr fr (l.take i) (ss.take i)) o s
  | [],_,_,_,i,o,s,h,_=>by simp at h
  | _ :: _,[],_,h,_,_,_,_,_=>h.elim
  | o' :: l,s' :: ss,fr,h,0,o,s,h1,h2=>by
    simp at h1 h2; subst h1 h2
    simpa [lexFr] using h.1
  | o' :: l,s' :: ss,fr,h,i + 1,o,s,h1,h2=>by
    simp at h1 h2
    simpa [lexFr] using QAll.at h.2 i o s h1 h2
def dstNe (ops:List Oper)(d:Nat):Bool:=ops.all fun o=>match o.dst with
  | some e=>!(Nat.beq e d)
  | none=>true
def uniq:List Oper->Bool
  | []=>true
  | o :: l=>(match o.dst with | some d=>dstNe l d | none=>true) && uniq l
def pairOk (ops:Array Oper)(i:Nat)(oi oj:Oper):Bool :=
  (match oi.dst with
   | some d=>!(oj.looksAt ops).contains d || oj.after.any (fun e=>e.on == i && Region.binds .any e)
   | none=>true) &&
  (match oj.dst with
   | some d=>!(oi.looksAt ops).contains d || oj.after.any (fun e=>e.on == i && Region.binds .any e)
   | none=>true)
def pairsOk (ops:Array Oper):Bool:=(List.range ops.size).all fun j=>(List.range j).all fun i=>match ops[i]?,ops[j]? with
  | some oi,some oj=>pairOk ops i oi oj
  | _,_=>true
def downOk (ops:Array Oper):Bool:=(List.range ops.size).all fun j=>match ops[j]? with
  | some o=>o.after.all fun e=>!(Region.binds .any e) || Nat.blt e.on j
  | none=>true
def ownOk (ops:Array Oper):Bool:=ops.toList.all fun o=>match o.dst with
  | some d=>!(o.looksAt ops).contains d
  | none=>true
def fitOk (N:Nat)(ops:Array Oper):Bool:=ops.toList.all fun o=>match o.dst with
  | some d=>Nat.blt d N
  | none=>true
def drawOk (N:Nat)(ops:Array Oper):Bool:=uniq ops.toList && pairsOk ops && downOk ops && ownOk ops && fitOk N ops
theorem uniq_spec:∀ {l:List Oper},uniq l=true->∀ (i j:Nat) (oi oj:Oper) (d:Nat),l[i]? = some oi->l[j]? = some oj->oi.dst=some d->oj.dst=some d->i=j
  | [],_,i,j,oi,oj,d,h,_,_,_=>by simp at h
  | o :: l,hu,i,j,oi,oj,d,h1,h2,h3,h4=>by
    simp only [uniq,Bool.and_eq_true] at hu
    have key:∀ (k:Nat) (ok:Oper),l[k]? = some ok->ok.dst=some d->o.dst=some d->False:=fun k ok hk hd ho=>by
      rw [ho] at hu
      have:=List.all_eq_true.1 hu.1 ok (List.mem_of_getElem? hk)
      rw [hd] at this
      simp at this
    match i,j,h1,h2 with
    | 0,0,_,_=>rfl
    | 0,j + 1,h1,h2=>simp at h1 h2; subst h1; exact (key j oj h2 h4 h3).elim
    | i + 1,0,h1,h2=>simp at h1 h2; subst h2; exact (key i oi h1 h3 h4).elim
    | i + 1,j + 1,h1,h2=>simp at h1 h2; rw [uniq_spec hu.2 i j oi oj d h1 h2 h3 h4]
theorem fnd_lex:∀ {l:List Oper} {ss:List SV} {fr:Fr} (_:uniq l=true) (_:ss.length=l.length) (t:Nat),
    (∃ (j:Nat) (o:Oper) (s:SV),l[j]? = some o/\ss[j]? = some s/\o.dst=some t/\fnd (lexFr fr l ss) t=some s)\/((∀ (j:Nat) (o:Oper),l[j]? = some o->o.dst≠some t)/\fnd (lexFr fr l ss) t=fnd fr t)
  | [],ss,fr,_,_,t=>.inr ⟨fun j o h=>by simp at h,by simp [lexFr]⟩
  | o :: l,[],fr,_,h,t=>by simp at h
  | o :: l,s :: ss,fr,hu,hl,t=>by
    have hu':=hu
    simp only [uniq,Bool.and_eq_true] at hu
    simp only [lexFr]
    rcases fnd_lex (fr:=putO fr o.dst s) hu.2 (by simpa using hl) t with ⟨j,oj,sj,h1,h2,h3,h4⟩ | ⟨h1,h2⟩
    · exact .inl ⟨j + 1,oj,sj,by simpa using h1,by simpa using h2,h3,h4⟩
    · by_cases hd:o.dst=some t
      · refine .inl ⟨0,o,s,by simp,by simp,hd,?_⟩
        rw [h2,hd]; simp [putO,fnd_cons]
      · refine .inr ⟨fun j oj hj=>?_,?_⟩
        · cases j with
          | zero=>simp at hj; subst hj; exact hd
          | succ j=>simp at hj; exact h1 j oj hj
        · rw [h2]
          cases ho:o.dst with
          | none=>rfl
          | some d =>
            rw [ho] at hd
            simp only [putO,fnd_cons]
            rw [if_neg (fun e=>hd (by rw [e]))]
theorem uniq_take:∀ {l:List Oper} (n:Nat),uniq l=true->uniq (l.take n)=true
  | [],_,_=>by simp [uniq]
  | _ :: _,0,_=>by simp [uniq]
  | o :: l,n + 1,h=>by
    simp only [uniq,Bool.and_eq_true,List.take_succ_cons] at *
    refine ⟨?_,uniq_take n h.2⟩
    cases ho:o.dst with
    | none=>rfl
    | some d =>
      rw [ho] at h
      exact List.all_eq_true.2 fun x hx=>List.all_eq_true.1 h.1 x (List.mem_of_mem_take hx)
structure QInv (N:Nat) (ops:Array Oper) (mem:Mem) (nx:Nat) (fr:Fr) (ss:List SV) (Γ:Gh) (ρ:Env) (w:World) (a:Act) (listed:Array Bool):Prop where
  inv:Inv Γ ρ nx mem w
  defers:MkOk Γ.lo w a.defers
  size:a.tmps.size=N
  old:∀ t s,fnd fr t=some s->(∀ j o,ops[j]? = some o->o.dst=some t->listed.getD j true=false)->Den Γ ρ s (a.tmps.getD t undef)/\s.bd nx=true
  new:∀ j o s d,ops[j]? = some o->ss[j]? = some s->listed.getD j true=true->o.dst=some d->Den Γ ρ s (a.tmps.getD d undef)/\s.bd nx=true
  down:∀ j o,ops[j]? = some o->listed.getD j true=true->∀ e∈o.after,Region.binds .any e=true->listed.getD e.on false=true
  lsize:listed.size=ops.size
theorem mem_ready' {listed:Array Bool}{i:Nat}(h:i∈Region.ready .any ops listed):listed.getD i true=false/\∃ o,ops[i]? = some o/\∀ e∈o.after,Region.binds .any e=true->listed.getD e.on false=true:=by
  unfold Region.ready at h
  rw [List.mem_filter] at h
  obtain ⟨h1,h2⟩:=h
  simp only [Bool.and_eq_true,Bool.not_eq_true'] at h2
  refine ⟨h2.1,?_⟩
  cases ho:ops[i]? with
  | none=>rw [ho] at h2; simp at h2
  | some o =>
    rw [ho] at h2
    refine ⟨o,rfl,fun e he hb=>?_⟩
    simp only [Option.map_some,Option.getD_some,Array.all_eq_true'] at h2
    have:=h2.2 e he
    simpa [hb] using this
theorem getD_true_of_false {listed:Array Bool}{i:Nat}(h:listed.getD i false=true):listed.getD i true=true:=by
  rw [Array.getD_eq_getD_getElem?] at *
  cases hq:listed[i]? with
  | none=>simp [hq] at h
  | some b=>simpa [hq] using h
theorem getD_false_of_true {listed:Array Bool}{i:Nat}(hi:i<listed.size)(h:listed.getD i true=true):listed.getD i false=true:=by
  rw [Array.getD_eq_getD_getElem?] at *
  rw [Array.getElem?_eq_getElem hi] at *
  simpa using h
theorem getD_set (listed:Array Bool)(i j:Nat)(hi:i<listed.size)(b:Bool):(listed.setIfInBounds i true).getD j b=if j=i then true else listed.getD j b:=by
  rw [Array.getD_eq_getD_getElem?,Array.getD_eq_getD_getElem?,Array.getElem?_setIfInBounds]
  by_cases h:i=j
  · subst h; simp [hi]
  · simp [h,Ne.symm h]
theorem QInv.step {fr:Fr}{ss:List SV}{Γ Γ':Gh}{ρ ρ':Env}{w w':World}{a:Act}{listed:Array Bool}(h:QInv N ops mem nx fr ss Γ ρ w a listed)(hu:uniq ops.toList=true)(hfit:∀ (i:Nat) (o:Oper) (d:Nat),ops[i]? = some o->o.dst=some d->d<N)
    {i:Nat} {o:Oper} {s:SV} {v:Value} (ho:ops[i]? = some o) (hs:ss[i]? = some s) (hready:∀ e∈o.after,Region.binds .any e=true->listed.getD e.on false=true)
    {mem₂:Mem} (hst:Stp ρ mem w ρ' mem₂ w') (hi':Inv Γ' ρ' nx mem w') (hle:Γ.le Γ') (hsame:Env.same nx ρ ρ') (hv:Den Γ' ρ' s v) (hb:s.bd nx=true):QInv N ops mem nx fr ss Γ' ρ' w' (a.put o.dst v) (listed.setIfInBounds i true):=by
  have hil:i<listed.size:=by rw [h.lsize]; exact (Array.getElem?_eq_some_iff.1 ho).1
  have hput:∀ t,o.dst≠some t->(a.put o.dst v).tmps.getD t undef=a.tmps.getD t undef:=fun t ht=>by
    cases hd:o.dst with
    | none=>rfl
    | some d =>
      rw [hd] at ht
      have:d≠t:=fun e=>ht (by rw [e])
      simp [Act.put,this]
  have hself:∀ d,o.dst=some d->(a.put o.dst v).tmps.getD d undef=v:=fun d hd=>by
    have:d<a.tmps.size:=by rw [h.size]; exact hfit i o d ho hd
    simp [Act.put,hd,this]
  refine ⟨hi',?_,?_,fun t x hx hno=>?_,fun j oj x d hj hsj hl hd=>?_,fun j oj hj hl e he hbe=>?_,by simp [h.lsize]⟩
  · rw [put_defers]; exact h.defers.step h.inv hst hle
  · cases hd:o.dst <;> simpa [Act.put] using h.size
  · have hne:o.dst≠some t:=fun e=>by
      have:=hno i o ho e
      rw [getD_set listed i i hil] at this
      simp at this
    rw [hput t hne]
    obtain ⟨h1,h2⟩:=h.old t x hx (fun j oj hj hd=>by
      have:=hno j oj hj hd
      rw [getD_set listed i j hil] at this
      split at this
      · cases this
      · exact this)
    exact ⟨Den.ext hle x _ hsame h2 h1,h2⟩
  · rw [getD_set listed i j hil] at hl
    split at hl
    · rename_i e
      subst e
      rw [ho] at hj; cases hj
      rw [hs] at hsj; cases hsj
      rw [hself d hd]
      exact ⟨hv,hb⟩
    · rename_i hne
      have hnd:o.dst≠some d:=fun e=>hne (uniq_spec hu j i oj o d (by simpa using hj) (by simpa using ho) hd e)
      rw [hput d hnd]
      obtain ⟨h1,h2⟩:=h.new j oj x d hj hsj hl hd
      exact ⟨Den.ext hle x _ hsame h2 h1,h2⟩
  · rw [getD_set listed i e.on hil]
    rw [getD_set listed i j hil] at hl
    split at hl
    · rename_i e'
      subst e'
      rw [ho] at hj; cases hj
      split
      · rfl
      · exact hready e he hbe
    · split
      · rfl
      · exact h.down j oj hj hl e he hbe
theorem wp_of_call {fr:Fr}{o:Oper}{f:Nat}{args:List SV}{K:SV->Mem->Nat->Prop}(hc:callee fr o.op=some (f,args))(h:XCall P f args mem nx K){Γ:Gh}{ρ:Env}{w:World}{a:Act}(hi:Inv Γ ρ nx mem w)(hf:FrDen Γ ρ nx N fr a)
    {next:Act->World->Prop} {Q:Exit->Act->World->Prop} (hnext:∀ v sv Γ' ρ' mem' nx' w',Inv Γ' ρ' nx' mem' w'->Den Γ' ρ' sv v->sv.bd nx'=true->Stp ρ mem w ρ' mem' w'->Γ.le Γ'->Env.same nx ρ ρ'->nx<=nx'->(∀ b,Γ' b≠none->Γ b≠none\/Owned ρ mem b\/w.heap.size<=b)->K sv mem' nx'->next (a.put o.dst v) w') :
    o.wpIn (fnc rd) 0 P a w next Q:=by
  unfold callee at hc
  split at hc
  · rename_i g as ats ho
    split at hc
    · rename_i f' first cap hg'
      simp only [Option.some.injEq,Prod.mk.injEq] at hc
      obtain ⟨rfl,rfl⟩:=hc
      obtain ⟨g1,g1b⟩:=evo_den hf g
      rw [hg'] at g1 g1b
      simp only [Den] at g1
      obtain ⟨va,vc,g2,g3,g4⟩:=g1
      simp only [SV.bd,Bool.and_eq_true] at g1b
      obtain ⟨m1,m2⟩:=mapDen hf as.toList
      obtain ⟨henter,hcall⟩:=h
      have hden:DenL Γ ρ (first++as.toList.map (evo fr)++cap) (va.toList++as.toList.map a.eval++vc.toList):=(g3.append m1).append g4
      have hbd:bdL nx (first++as.toList.map (evo fr)++cap)=true:=bdL_append (bdL_append g1b.1 m2) g1b.2
      have hrun:(execOp a.eval o).run P w = .ok (.enter f' (va.toList++as.toList.map a.eval++vc.toList).toArray) w:=by
        have he:=henter.run (va.toList++as.toList.map a.eval++vc.toList).toArray w
        simp only [execOp,ho,resolve,g2,Deferred.ofValue,Sem.run_bind,Sem.run_pure,Result.andThen_ok,invoke]
        rw [<- he]
        congr 2
        apply Array.toList_inj.1
        simp
      refine ⟨fun _ _=>trivial,?_⟩
      rw [Oper.semAt_eq _ _ _ (fun c hc=>by rw [ho] at hc; cases hc),hrun,Oper.uponIn_enter]
      refine ⟨(fun hd=>by cases hd),calls_fnc ?_⟩
      refine (hcall Γ ρ w _ hi hden hbd).mono ?_
      rintro e w' ⟨v,sv,Γ',ρ',mem',nx',rfl,h1,h2,h3,h4,h5,h6,h7,h8,h9⟩
      exact hnext v sv Γ' ρ' mem' nx' w' h1 h2 h3 h4 h5 h6 h7 h8 h9
    · cases hc
  · cases hc
theorem xw_draw_core (hm:P.follows .mixedOrders=true){id:Nat}{K:XE->St->Prop}{fr fr2:Fr}(ss:List SV)(hd:drawOk N ops=true)(hq:QAll P N ops mem nx ops.toList ss fr)
    (hsub:∀ t s,fnd fr2 t=some s->fnd (lexFr fr ops.toList ss) t=some s) (hK:K .normal ⟨fr2,mem,nx⟩):XW rd P N n0 (.region id ops true) K ⟨fr,mem,nx⟩:=by
  simp only [drawOk,Bool.and_eq_true] at hd
  obtain ⟨⟨⟨⟨hu,hp⟩,hdn⟩,hown⟩,hfit⟩:=hd
  have hlen:ss.length=ops.size:=by simpa using hq.len
  have hfitS:∀ (i:Nat) (o:Oper) (d:Nat),ops[i]? = some o->o.dst=some d->d<N:=fun i o d h1 h2=>by
    have:=List.all_eq_true.1 hfit o (List.mem_of_getElem? (by simpa using h1))
    rw [h2] at this; simpa using this
  have hdown:∀ (j:Nat) (o:Oper),ops[j]? = some o->∀ e∈o.after,Region.binds .any e=true->e.on<j:=fun j o h1 e he hb=>by
    have hj:j<ops.size:=(Array.getElem?_eq_some_iff.1 h1).1
    have:=List.all_eq_true.1 hdn j (by simpa using hj)
    rw [h1] at this
    rw [Array.all_eq_true'] at this
    have:=this e he
    simpa [hb] using this
  have hpair:∀ (i j:Nat) (oi oj:Oper),i<j->ops[i]? = some oi->ops[j]? = some oj ->
      (∀ d,oi.dst=some d->d∈oj.looksAt ops->∃ e∈oj.after,e.on=i/\Region.binds .any e=true)/\(∀ d,oj.dst=some d->d∈oi.looksAt ops->∃ e∈oj.after,e.on=i/\Region.binds .any e=true):=fun i j oi oj hij h1 h2=>by
    have hj:j<ops.size:=(Array.getElem?_eq_some_iff.1 h2).1
    have:=List.all_eq_true.1 (List.all_eq_true.1 hp j (by simpa using hj)) i (by simpa using hij)
    rw [h1,h2] at this
    simp only [pairOk,Bool.and_eq_true] at this
    refine ⟨fun d hd hl=>?_,fun d hd hl=>?_⟩
    · have:=this.1
      rw [hd] at this
      simp only [Bool.or_eq_true,Bool.not_eq_true',List.contains_eq_mem,decide_eq_false_iff_not,hl,not_true_eq_false,false_or,Array.any_eq_true'] at this
      obtain ⟨e,he,hb⟩:=this
      simp at hb
      exact ⟨e,he,hb.1,hb.2⟩
    · have:=this.2
      rw [hd] at this
      simp only [Bool.or_eq_true,Bool.not_eq_true',List.contains_eq_mem,decide_eq_false_iff_not,hl,not_true_eq_false,false_or,Array.any_eq_true'] at this
      obtain ⟨e,he,hb⟩:=this
      simp at hb
      exact ⟨e,he,hb.1,hb.2⟩
  intro Γ0 ρ0 w0 a0 hn hok
  refine wpIn_region_any hm ?_
  have hend:∀ (listed:Array Bool) (Γ:Gh) (ρ:Env) (w:World) (a:Act),QInv N ops mem nx fr ss Γ ρ w a listed->Nxt n0 Γ0 ρ0 ⟨fr,mem,nx⟩ w0 Γ ρ ⟨fr2,mem,nx⟩ w->(∀ j,j<ops.size->listed.getD j true=true)->XPost N n0 K Γ0 ρ0 ⟨fr,mem,nx⟩ w0 .normal a w:=by
    intro listed Γ ρ w a hI hN hall
    refine ⟨.normal,Γ,ρ,⟨fr2,mem,nx⟩,rfl,⟨hI.inv,hI.defers,hI.size,fun t s ht=>?_⟩,hN,hK⟩
    have ht':=hsub t s ht
    rcases fnd_lex (fr:=fr) hu (by simpa using hlen) t with ⟨j,oj,sj,h1,h2,h3,h4⟩ | ⟨h1,h2⟩
    · rw [h4] at ht'; cases ht'
      have hj:ops[j]? = some oj:=by simpa using h1
      exact hI.new j oj _ t hj h2 (hall j (Array.getElem?_eq_some_iff.1 hj).1) h3
    · rw [h2] at ht'
      exact hI.old t s ht' (fun j o hj hdj=>absurd hdj (h1 j o (by simpa using hj)))
  have key:∀ (fuel:Nat) (U:List Nat) (listed:Array Bool) (Γ:Gh) (ρ:Env) (w:World) (a:Act),U.length<=fuel->(∀ j,j<ops.size->listed.getD j true=false->j∈U)->QInv N ops mem nx fr ss Γ ρ w a listed->Nxt n0 Γ0 ρ0 ⟨fr,mem,nx⟩ w0 Γ ρ ⟨fr2,mem,nx⟩ w ->
      wpAnyIn (fnc rd) 0 P .any ops (XPost N n0 K Γ0 ρ0 ⟨fr,mem,nx⟩ w0) fuel listed a w:=by
    intro fuel
    induction fuel with
    | zero =>
      intro U listed Γ ρ w a hU hUm hI hN
      have hall:∀ j,j<ops.size->listed.getD j true=true:=fun j hj=>by
        cases hq:listed.getD j true with
        | true=>rfl
        | false =>
          have:=hUm j hj hq
          rw [List.eq_nil_of_length_eq_zero (Nat.le_zero.1 hU)] at this
          cases this
      refine ⟨?_,hend listed Γ ρ w a hI hN hall⟩
      refine List.eq_nil_iff_forall_not_mem.2 fun i hi=>?_
      obtain ⟨h1,o,h2,_⟩:=mem_ready' hi
      rw [hall i (Array.getElem?_eq_some_iff.1 h2).1] at h1
      cases h1
    | succ fuel ih =>
      intro U listed Γ ρ w a hU hUm hI hN
      refine ⟨fun hr=>hend listed Γ ρ w a hI hN ?_,fun i hi=>?_⟩
      · intro j
        induction j using Nat.strongRecOn with
        | _ j jh =>
          intro hj
          cases hq:listed.getD j true with
          | true=>rfl
          | false =>
            exfalso
            have:j∈Region.ready .any ops listed:=by
              unfold Region.ready
              rw [List.mem_filter]
              refine ⟨by simpa using hj,?_⟩
              simp only [hq,Bool.not_false,Bool.true_and]
              rw [Array.getElem?_eq_getElem hj]
              simp only [Option.map_some,Option.getD_some,Array.all_eq_true']
              intro e he
              cases hb:Region.binds .any e with
              | false=>rfl
              | true =>
                have hlt:=hdown j _ (Array.getElem?_eq_getElem hj) e he hb
                have:=getD_false_of_true (by rw [hI.lsize]; omega) (jh e.on hlt om)
                simpa using this
            rw [hr] at this; cases this
      · obtain ⟨hun,o,ho,hready⟩:=mem_ready' hi
        have hil:i<ops.size:=(Array.getElem?_eq_some_iff.1 ho).1
        have hsi:∃ s,ss[i]? = some s:=⟨_,List.getElem?_eq_getElem om⟩
        obtain ⟨s,hs⟩:=hsi
        have hstep:=hq.at i o s (by simpa using ho) hs
        have hfr:FrDen Γ ρ nx N (rs (lexFr fr (ops.toList.take i) (ss.take i)) (o.looksAt ops)) a:=by
          refine ⟨hI.size,fun t x hx=>?_⟩
          obtain ⟨hmem,hx⟩:=fnd_rs _ _ _ _ hx
          rcases fnd_lex (fr:=fr) (uniq_take i hu) (by simp; omega) t (l:=ops.toList.take i) (ss:=ss.take i) with ⟨j,oj,sj,h1,h2,h3,h4⟩ | ⟨h1,h2⟩
          · rw [h4] at hx; cases hx
            have hji:j<i:=by
              have:=(List.getElem?_eq_some_iff.1 h1).1
              simp at this; omega
            have hj:ops[j]? = some oj:=by
              rw [List.getElem?_take_of_lt hji] at h1; simpa using h1
            rw [List.getElem?_take_of_lt hji] at h2
            obtain ⟨e,he,he1,he2⟩:=(hpair j i oj o hji hj ho).1 t h3 hmem
            have hl:=hready e he he2
            rw [he1] at hl
            exact hI.new j oj _ t hj h2 (getD_true_of_false hl) h3
          · rw [h2] at hx
            refine hI.old t x hx (fun j oj hj hdj=>?_)
            by_cases hji:j<i
            · exact absurd hdj (h1 j oj (by rw [List.getElem?_take_of_lt hji]; simpa using hj))
            · by_cases hje:j=i
              · subst hje; exact hun
              · obtain ⟨e,he,he1,he2⟩:=(hpair i j o oj om ho hj).2 t hdj hmem
                cases hq2:listed.getD j true with
                | false=>rfl
                | true =>
                  have:=hI.down j oj hj hq2 e he he2
                  rw [he1] at this
                  rw [getD_true_of_false this] at hun
                  cases hun
        have hU':(U.erase i).length<=fuel:=by
          rw [List.length_erase_of_mem (hUm i hil hun)]; omega
        have hUm':∀ j,j<ops.size->(listed.setIfInBounds i true).getD j true=false->j∈U.erase i:=fun j hj hj2=>by
          rw [getD_set listed i j (by rw [hI.lsize]; exact hil)] at hj2
          split at hj2
          · cases hj2
          · rename_i hne
            exact (List.mem_erase_of_ne hne).2 (hUm j hj hj2)
        unfold wpOpIn
        rw [ho]
        simp only []
        rcases hstep with ⟨hg,rfl⟩ | ⟨hg,hstep⟩
        · rw [gd_sound hfr hg,if_neg Bool.false_ne_true]
          refine ⟨fun _ _=>trivial,?_⟩
          have hu':=undef_den (Γ:=Γ) (ρ:=ρ) (n:=nx)
          exact ih _ _ Γ ρ w _ hU' hUm' (hI.step hu hfitS ho hs hready (Stp.refl _ _ _) hI.inv (Gh.le_refl _) (Env.same_refl _ _) hu'.1 hu'.2) hN
        · rw [gd_sound hfr hg,if_pos rfl]
          rcases hstep with hop | ⟨f,args,hc,hcall⟩
          · obtain ⟨v,r,Γ',ρ',w',h1,h2,h3,h4,h5,h6,h7,h8,h9,h10⟩:=hop Γ ρ w a hI.inv hfr
            have hgo:=ih _ _ Γ' ρ' w' _ hU' hUm' (hI.step hu hfitS ho hs hready h8 h5 h9 h6 h3 h4) (hN.trans ⟨h8,h9,Env.same_mono hn h6,hn,h10⟩)
            refine ⟨fun _ _=>trivial,?_⟩
            rw [sem_round h1 h2]
            rcases h2 with rfl | ⟨rfl,rfl⟩
            · exact hgo
            · exact hgo
          · refine wp_of_call hc hcall hI.inv hfr ?_
            rintro v sv Γ' ρ' mem' nx' w' h1 h2 h3 h4 h5 h6 h7 h8 ⟨rfl,rfl,rfl⟩
            exact ih _ _ Γ' ρ' w' _ hU' hUm' (hI.step hu hfitS ho hs hready h4 h1 h5 h6 h2 h3) (hN.trans ⟨h4,h5,Env.same_mono hn h6,hn,h8⟩)
  refine key ops.size (List.range ops.size) _ Γ0 ρ0 w0.drew a0 (by simp) (fun j hj _=>by simpa using hj) ?_ ?_
  · refine ⟨⟨hok.inv.pub,hok.inv.priv,hok.inv.inj⟩,hok.marks,hok.frame.size,fun t s ht _=>hok.frame.slot t s ht,fun j o s d hj _ hl _=>?_,fun j o hj hl=>?_,by simp⟩
    · have:=(Array.getElem?_eq_some_iff.1 hj).1
      simp [this] at hl
    · have:=(Array.getElem?_eq_some_iff.1 hj).1
      simp [this] at hl
  · exact ⟨⟨rfl,rfl,rfl,Nat.le_refl _,fun _ _ _=>rfl,fun b hb=>.inl hb⟩,Gh.le_refl _,Env.same_refl _ _,hn,fun _ hb=>.inl hb⟩
end
def quietOp:Op->Bool
 | .move _ | .assign _ | .pick _ _ _ | .load _ _ | .fieldAddr _ _ _ | .indexAddr _ _ _ | .unOp _ _ _ | .binOp _ _ _ _ _ | .convert _ _ _ | .build _ _ | .slice _ _ _ _ _ | .makeFunc _ _ _ | .extract _ _ | .field _ _ _ | .nilCheck _ | .lookup _ _ _ _=>true
 | .call ⟨.builtin .len,_,_⟩ | .call ⟨.builtin .max,_,_⟩ | .call ⟨.builtin .min,_,_⟩=>true
 | _=>false
theorem quiet_same1 {T:Tab}{fr:Fr}{mem:Mem}{nx:Nat}{o:Op}{q sv:SV}{mem':Mem}{nx':Nat}{k:Prop}(h:xop1 T fr mem nx o q=some (sv,mem',nx',k))(hq:quietOp o=true):mem'=mem/\nx'=nx:=by
 have fin:∀ {x y:SV} {m m':Mem} {n n':Nat} {p r:Prop},some (x,m,n,p)=some (y,m',n',r)->m'=m/\n'=n:=fun h=>by
  simp only [Option.some.injEq,Prod.mk.injEq] at h; exact ⟨h.2.1.symm,h.2.2.1.symm⟩
 unfold xop1 at h
 split at h
 ·exact fin h
 ·exact fin h
 ·unfold xpick at h; repeat' split at h
  all_goals first | exact fin h | cases h
 ·cases hq
 ·cases hq
 ·unfold xload at h; repeat' split at h
  all_goals first | exact fin h | cases h
 ·cases hq
 ·unfold xfieldAddr at h; repeat' split at h
  all_goals first | exact fin h | cases h
 ·unfold xindexAddr at h; repeat' split at h
  all_goals first | exact fin h | cases h
 ·unfold xnot at h; repeat' split at h
  all_goals first | exact fin h | cases h
 ·unfold xbinOp at h; repeat' split at h
  all_goals first | exact fin h | cases h
 ·unfold xconv at h; repeat' split at h
  all_goals first | exact fin h | cases h
 ·unfold xbuild at h; repeat' split at h
  all_goals first | exact fin h | cases h
 ·cases hq
 ·cases hq
 ·unfold xslice at h; repeat' split at h
  all_goals first | exact fin h | cases h
 ·exact fin h
 ·unfold xextract at h; repeat' split at h
  all_goals first | exact fin h | cases h
 ·unfold xfield at h; repeat' split at h
  all_goals first | exact fin h | cases h
 ·unfold xlen at h; repeat' split at h
  all_goals first | exact fin h | cases h
 ·unfold xmm at h; repeat' split at h
  all_goals first | exact fin h | cases h
 ·unfold xmm at h; repeat' split at h
  all_goals first | exact fin h | cases h
 ·cases h
def quietF (fr:Fr)(o:Op):Bool:=match o with
 | .slice _ x none (some _) none=>match evo fr x with
  | .own _=>false
  | _=>true
 | o=>quietOp o
theorem quiet_same {T:Tab}{fr:Fr}{mem:Mem}{nx:Nat}{o:Op}{q sv:SV}{mem':Mem}{nx':Nat}{k:Prop}(h:xop2 T fr mem nx o q=some (sv,mem',nx',k))(hq:quietF fr o=true):mem'=mem/\nx'=nx:=by
 have fin:∀ {x y:SV} {m m':Mem} {n n':Nat} {p r:Prop},some (x,m,n,p)=some (y,m',n',r)->m'=m/\n'=n:=fun h=>by
  simp only [Option.some.injEq,Prod.mk.injEq] at h; exact ⟨h.2.1.symm,h.2.2.1.symm⟩
 unfold xop2 at h
 split at h
 ·cases hq
 ·cases hq
 ·cases hq
 ·cases hq
 ·cases hq
 ·split at h
  ·unfold xidxc at h; repeat' split at h
   all_goals first | exact fin h | cases h
  ·exact quiet_same1 h rfl
 ·split at h
  ·unfold xlenc at h; repeat' split at h
   all_goals first | exact fin h | cases h
  ·exact quiet_same1 h rfl
 ·cases hq
 ·cases hq
 ·split at h
  ·unfold xosub at h; repeat' split at h
   all_goals first | exact fin h | cases h
  ·exact quiet_same1 h rfl
 ·simp only [quietF] at hq
  split at h
  ·rename_i hx; rw [hx] at hq; cases hq
  ·exact quiet_same1 h rfl
 ·split at h
  ·unfold xnilcmp at h; repeat' split at h
   all_goals first | exact fin h | cases h
  ·exact quiet_same1 h rfl
 ·split at h
  ·unfold xnilcmp at h; repeat' split at h
   all_goals first | exact fin h | cases h
  ·exact quiet_same1 h rfl
 ·cases hq
 ·unfold xlookup at h; repeat' split at h
  all_goals first | exact fin h | cases h
 ·cases hq
 ·cases hq
 ·unfold xnil at h; repeat' split at h
  all_goals first | exact fin h | cases h
 ·refine quiet_same1 h ?_
  unfold quietF at hq
  split at hq
  ·rfl
  ·exact hq
section
variable {rd:Option Nat} {P:Program} {T:Tab} {N n0:Nat} {ops:Array Oper} {mem:Mem} {nx:Nat}
def QO (P:Program)(N:Nat)(ops:Array Oper)(mem:Mem)(nx:Nat)(l:List Oper)(K:Fr->Prop)(fr:Fr):Prop :=
 ∃ ss fr2,QAll P N ops mem nx l ss fr/\(∀ t s,fnd fr2 t=some s->fnd (lexFr fr l ss) t=some s)/\K fr2
theorem q_nil {K:Fr->Prop}{fr:Fr}(h:K fr):QO P N ops mem nx [] K fr:=⟨[],fr,trivial,fun _ _ h=>h,h⟩
theorem q_step {o:Oper}{l:List Oper}{K:Fr->Prop}{fr:Fr}{sv:SV}(hs:QStep P N ops mem nx fr o sv)(h:QO P N ops mem nx l K (putO fr o.dst sv)):QO P N ops mem nx (o :: l) K fr:=by
 obtain ⟨ss,fr2,h1,h2,h3⟩:=h
 exact ⟨sv :: ss,fr2,⟨hs,h1⟩,h2,h3⟩
def xqrun (T:Tab)(ops:Array Oper)(mem:Mem)(nx:Nat)(orc:List (Nat×SV)):Nat->Nat->List Oper->Fr->Option (List Oper×Fr×List Prop)
 | 0,_,l,fr=>some (l,fr,[])
 | _ + 1,_,[],_=>none
 | n + 1,i,o :: l,fr=>match gd ops (rs fr (o.looksAt ops)) o.guard with
  | some true=>match quietF (rs fr (o.looksAt ops)) o.op with
   | true=>match xop2 T (rs fr (o.looksAt ops)) mem nx o.op (match fnd orc i with | some q=>q | none=>.junk) with
    | some (sv,_,_,k)=>match xqrun T ops mem nx orc n (i + 1) l (putO fr o.dst sv) with
     | some (l',fr',ks)=>match noc o.op with
      | true=>some (l',fr',ks)
      | false=>some (l',fr',k :: ks)
     | none=>none
    | none=>none
   | false=>none
  | some false=>xqrun T ops mem nx orc n (i + 1) l (putO fr o.dst (.tup []))
  | none=>none
theorem q_run (hT:TabOk P T)(orc:List (Nat×SV)):∀ (n i:Nat) (l:List Oper) (fr:Fr) (l':List Oper) (fr':Fr) (ks:List Prop) {K:Fr->Prop},xqrun T ops mem nx orc n i l fr=some (l',fr',ks)->All ks->QO P N ops mem nx l' K fr'->QO P N ops mem nx l K fr
 | 0,_,l,fr,l',fr',ks,K,h,_,hx=>by
  simp only [xqrun,Option.some.injEq,Prod.mk.injEq] at h
  obtain ⟨rfl,rfl,rfl⟩:=h
  exact hx
 | n + 1,_,[],fr,l',fr',ks,K,h,_,_=>by simp [xqrun] at h
 | n + 1,i,o :: l,fr,l',fr',ks,K,h,hk,hx=>by
  simp only [xqrun] at h
  split at h
  ·rename_i hg
   split at h
   ·rename_i hqo
    split at h
    ·rename_i sv mem' nx' k hop
     split at h
     ·rename_i l1 fr1 ks1 hr
      obtain ⟨hq1,hq2⟩:=quiet_same hop hqo
      rw [hq1,hq2] at hop
      have hkk:k/\All ks1/\l1=l'/\fr1=fr':=by
       split at h
       ·rename_i hc
        simp only [Option.some.injEq,Prod.mk.injEq] at h
        obtain ⟨rfl,rfl,rfl⟩:=h
        exact ⟨noc_true2 hop hc,hk,rfl,rfl⟩
       ·simp only [Option.some.injEq,Prod.mk.injEq] at h
        obtain ⟨rfl,rfl,rfl⟩:=h
        exact ⟨hk.1,hk.2,rfl,rfl⟩
      obtain ⟨hk1,hk2,rfl,rfl⟩:=hkk
      exact q_step (.inr ⟨hg,.inl (xop2_sound hT hop hk1)⟩) (q_run hT orc n (i + 1) l _ _ _ ks1 hr hk2 hx)
     ·cases h
    ·cases h
   ·cases h
  ·rename_i hg
   exact q_step (.inl ⟨hg,rfl⟩) (q_run hT orc n (i + 1) l _ _ _ ks h hk hx)
  ·cases h
theorem q_callx {o:Oper}{l:List Oper}{K:Fr->Prop}{fr:Fr}{f:Nat}{args:List SV}{sv:SV}(hg:gd ops (rs fr (o.looksAt ops)) o.guard=some true)(hc:callee (rs fr (o.looksAt ops)) o.op=some (f,args))
  (h:XCall P f args mem nx (fun s m n=>s=sv/\m=mem/\n=nx)) (hx:QO P N ops mem nx l K (putO fr o.dst sv)):QO P N ops mem nx (o :: l) K fr :=
 q_step (.inr ⟨hg,.inr ⟨f,args,hc,h⟩⟩) hx
theorem xw_draw (hm:P.follows .mixedOrders=true){id:Nat}{K:XE->St->Prop}{fr:Fr}(hd:drawOk N ops=true)(h:QO P N ops mem nx ops.toList (fun fr2=>K .normal ⟨fr2,mem,nx⟩) fr):XW rd P N n0 (.region id ops true) K ⟨fr,mem,nx⟩:=by
 obtain ⟨ss,fr2,h1,h2,h3⟩:=h
 exact xw_draw_core hm ss hd h1 h2 h3
end
section
variable {rd:Option Nat} {P:Program} {T:Tab} {N n0:Nat} {ops:Array Oper} {mem:Mem} {nx:Nat}
def XOi (rd:Option Nat)(P:Program)(N n0:Nat)(ops:Array Oper)(i:Nat)(K:St->Prop)(s:St):Prop:=XO rd P N n0 ops (ops.toList.drop i) K s
def QOi (P:Program)(N:Nat)(ops:Array Oper)(mem:Mem)(nx:Nat)(i:Nat)(K:Fr->Prop)(fr:Fr):Prop:=QO P N ops mem nx (ops.toList.drop i) K fr
theorem reg {id:Nat}{K:XE->St->Prop}{s:St}(h:XOi rd P N n0 ops 0 (K .normal) s):XW rd P N n0 (.region id ops false) K s:=xw_region (by simpa [XOi] using h)
theorem xrun_drop (orc:List (Nat×SV)):∀ (n i:Nat) (l:List Oper) (s:St) (l':List Oper) (s':St) (ks:List Prop),xrun T N ops orc n i l s=some (l',s',ks)->l'=l.drop n
 | 0,_,l,s,l',s',ks,h=>by
  simp only [xrun,Option.some.injEq,Prod.mk.injEq] at h
  simp [h.1]
 | n + 1,_,[],s,l',s',ks,h=>by simp [xrun] at h
 | n + 1,i,o :: l,s,l',s',ks,h=>by
  simp only [xrun] at h
  split at h
  ·split at h
   ·split at h
    ·split at h
     ·rename_i hr
      have:=xrun_drop orc n (i + 1) l _ _ _ _ hr
      split at h <;> (simp only [Option.some.injEq,Prod.mk.injEq] at h; obtain ⟨rfl,rfl,rfl⟩:=h; simpa using this)
     ·cases h
    ·cases h
   ·cases h
  ·split at h
   ·have:=xrun_drop orc n (i + 1) l _ _ _ _ h
    simpa using this
   ·cases h
  ·cases h
def xruni (T:Tab)(N:Nat)(ops:Array Oper)(orc:List (Nat×SV))(n i:Nat)(s:St):Option (St×List Prop) :=
 match xrun T N ops orc n i (ops.toList.drop i) s with
 | some (_,s',ks)=>some (s',ks)
 | none=>none
theorem run (hT:TabOk P T)(orc:List (Nat×SV))(n i:Nat)(s s':St)(ks:List Prop){K:St->Prop}(h:xruni T N ops orc n i s=some (s',ks))(hk:All ks)(hx:XOi rd P N n0 ops (i + n) K s'):XOi rd P N n0 ops i K s:=by
 unfold xruni at h
 split at h
 ·rename_i l' s1 k1 hr
  simp only [Option.some.injEq,Prod.mk.injEq] at h
  obtain ⟨rfl,rfl⟩:=h
  have hl:=xrun_drop orc n i _ s _ _ _ hr
  refine xo_run hT orc n i _ s l' _ _ hr hk ?_
  rw [hl,List.drop_drop]; exact hx
 ·cases h
theorem endr {i:Nat}{K:St->Prop}{s:St}(h:ops.toList.drop i=[])(hk:K s):XOi rd P N n0 ops i K s:=by
 unfold XOi; rw [h]; exact xo_nil hk
def callAt (N:Nat)(ops:Array Oper)(fr:Fr)(i:Nat):Option (Nat×List SV×Option Nat) :=
 match ops.toList[i]? with
 | some o=>match gd ops fr o.guard,callee fr o.op,(match o.dst with | some d=>Nat.blt d N | none=>true) with
  | some true,some (f,args),true=>some (f,args,o.dst)
  | _,_,_=>none
 | none=>none
theorem drop_cons {i:Nat}{o:Oper}{l:List Oper}(h:l[i]? = some o):l.drop i=o :: l.drop (i + 1):=by
 obtain ⟨hi,he⟩:=List.getElem?_eq_some_iff.1 h
 rw [<- he]; exact List.drop_eq_getElem_cons hi
theorem callx {i:Nat}{K:St->Prop}{s:St}{f:Nat}{args:List SV}{d:Option Nat}(h:callAt N ops s.fr i=some (f,args,d))(hc:XCall P f args s.mem s.nx fun sv mem' nx'=>XOi rd P N n0 ops (i + 1) K ⟨putO s.fr d sv,mem',nx'⟩):XOi rd P N n0 ops i K s:=by
 unfold callAt at h
 split at h
 ·rename_i o ho
  split at h
  ·rename_i f' args' hg hca hd
   simp only [Option.some.injEq,Prod.mk.injEq] at h
   obtain ⟨rfl,rfl,rfl⟩:=h
   unfold XOi
   rw [drop_cons ho]
   refine xo_call hg hca ⟨hc.1,fun Γ ρ w vs h1 h2 h3=>(hc.2 Γ ρ w vs h1 h2 h3).mono ?_⟩
   rintro e w' ⟨v,sv,Γ',ρ',mem',nx',g1,g2,g3,g4,g5,g6,g7,g8,g9,g10⟩
   refine ⟨v,sv,Γ',ρ',mem',nx',g1,g2,g3,g4,g5,g6,g7,g8,g9,putO s.fr o.dst sv,?_,g10⟩
   cases hdd:o.dst with
   | none=>rfl
   | some d=>rw [hdd] at hd; simp only at hd; simp only [putS,putO,hd]
  ·cases h
 ·cases h
theorem call {i:Nat}{K:St->Prop}{s:St}{f:Nat}{args args':List SV}{d:Option Nat}{R:SV->Prop}(h:callAt N ops s.fr i=some (f,args,d))(hp:Pub P f args' R)(hw:WkL args args')(hb:bdL 0 args'=true)
  (hk:∀ sv,R sv->XOi rd P N n0 ops (i + 1) K ⟨putO s.fr d sv,s.mem,s.nx⟩):XOi rd P N n0 ops i K s:=callx h (xcall_pub hp hw hb hk)
theorem splitr {i:Nat}{K:St->Prop}{s:St}(d:Nat){x:Bool}(hd:fnd s.fr d=some (.bool x))(ht:x=true->XOi rd P N n0 ops i K ⟨(d,.bool true) :: s.fr,s.mem,s.nx⟩)(hf:x=false->XOi rd P N n0 ops i K ⟨(d,.bool false) :: s.fr,s.mem,s.nx⟩):XOi rd P N n0 ops i K s:=xo_split d hd ht hf
theorem dreg (hm:P.follows .mixedOrders=true){id:Nat}{K:XE->St->Prop}{fr:Fr}(hd:drawOk N ops=true)(h:QOi P N ops mem nx 0 (fun fr2=>K .normal ⟨fr2,mem,nx⟩) fr):XW rd P N n0 (.region id ops true) K ⟨fr,mem,nx⟩ :=
 xw_draw hm hd (by simpa [QOi] using h)
theorem xqrun_drop (orc:List (Nat×SV)):∀ (n i:Nat) (l:List Oper) (fr:Fr) (l':List Oper) (fr':Fr) (ks:List Prop),xqrun T ops mem nx orc n i l fr=some (l',fr',ks)->l'=l.drop n
 | 0,_,l,fr,l',fr',ks,h=>by
  simp only [xqrun,Option.some.injEq,Prod.mk.injEq] at h
  simp [h.1]
 | n + 1,_,[],fr,l',fr',ks,h=>by simp [xqrun] at h
 | n + 1,i,o :: l,fr,l',fr',ks,h=>by
  simp only [xqrun] at h
  split at h
  ·split at h
   ·split at h
    ·split at h
     ·rename_i hr
      have:=xqrun_drop orc n (i + 1) l _ _ _ _ hr
      split at h <;> (simp only [Option.some.injEq,Prod.mk.injEq] at h; obtain ⟨rfl,rfl,rfl⟩:=h; simpa using this)
     ·cases h
    ·cases h
   ·cases h
  ·have:=xqrun_drop orc n (i + 1) l _ _ _ _ h
   simpa using this
  ·cases h
def xqruni (T:Tab)(ops:Array Oper)(mem:Mem)(nx:Nat)(orc:List (Nat×SV))(n i:Nat)(fr:Fr):Option (Fr×List Prop) :=
 match xqrun T ops mem nx orc n i (ops.toList.drop i) fr with
 | some (_,fr',ks)=>some (fr',ks)
 | none=>none
theorem qrun (hT:TabOk P T)(orc:List (Nat×SV))(n i:Nat)(fr fr':Fr)(ks:List Prop){K:Fr->Prop}(h:xqruni T ops mem nx orc n i fr=some (fr',ks))(hk:All ks)(hx:QOi P N ops mem nx (i + n) K fr'):QOi P N ops mem nx i K fr:=by
 unfold xqruni at h
 split at h
 ·rename_i l' s1 k1 hr
  simp only [Option.some.injEq,Prod.mk.injEq] at h
  obtain ⟨rfl,rfl⟩:=h
  have hl:=xqrun_drop orc n i _ fr _ _ _ hr
  refine q_run hT orc n i _ fr l' _ _ hr hk ?_
  rw [hl,List.drop_drop]; exact hx
 ·cases h
theorem qend {i:Nat}{K:Fr->Prop}{fr:Fr}(h:ops.toList.drop i=[])(hk:K fr):QOi P N ops mem nx i K fr:=by
 unfold QOi; rw [h]; exact q_nil hk
def qcallAt (ops:Array Oper)(fr:Fr)(i:Nat):Option (Nat×List SV×Option Nat) :=
 match ops.toList[i]? with
 | some o=>match gd ops (rs fr (o.looksAt ops)) o.guard,callee (rs fr (o.looksAt ops)) o.op with
  | some true,some (f,args)=>some (f,args,o.dst)
  | _,_=>none
 | none=>none
end
theorem sg0 (r:Nat):sg 0 [] r=r:=by
 have:Nat.blt r 0=false:=by cases r <;> rfl
 simp [sg,this,fnd]
theorem via0 (ρ:Env):ρ.via 0 []=ρ:=by
 cases ρ
 unfold Env.via
 simp [sg0]
theorem wkd {y t:SV}(ks:List Prop)(h:wkc 0 [] y t=some ks)(hk:All ks):WkD y t:=fun Γ v hd=>by
 have:=wkc_sound (n0:=0) (σ:=[]) y t v ks h hk hd
 rwa [via0] at this
structure Pf where
 p:Prop
 h:p
def pat:List (Nat×Pf)->Nat->List Prop->List Prop
 | [],_,l=>l
 | _,_,[]=>[]
 | (j,p) :: ps,i,q :: l=>match Nat.beq i j with
  | true=>p.p :: pat ps (i + 1) l
  | false=>q :: pat ((j,p) :: ps) (i + 1) l
theorem pat_all:∀ (ps:List (Nat×Pf)) (i:Nat) (l:List Prop),All l->All (pat ps i l)
 | [],_,l,h=>by cases l <;> exact h
 | _ :: _,_,[],_=>trivial
 | (j,p) :: ps,i,q :: l,h=>by
  unfold pat
  split
  ·exact ⟨p.h,pat_all ps _ l h.2⟩
  ·exact ⟨h.1,pat_all _ _ l h.2⟩
mutual
def wkS:SV->List Prop
 | .int _ n=>[n=n]
 | .bool b=>[b=b]
 | .sl x _ xs=>[(x=true->x=true),xs=xs]
 | .agg l=>wkSL l
 | .tup l=>wkSL l
 | .fn _ a c=>wkSL a++wkSL c
 | .raw u=>[u=u]
 | .elt x=>[x=x]
 | _=>[]
def wkSL:List SV->List Prop
 | []=>[]
 | s :: l=>wkS s++wkSL l
end
theorem all_app:∀ {a b:List Prop},All a->All b->All (a++b)
 | [],_,_,h=>h
 | _ :: _,_,h,k=>⟨h.1,all_app h.2 k⟩
mutual
theorem wkS_all:∀ s:SV,All (wkS s)
 | .int _ _=>⟨rfl,trivial⟩
 | .bool _=>⟨rfl,trivial⟩
 | .sl _ _ _=>⟨id,rfl,trivial⟩
 | .agg l=>by simp only [wkS]; exact wkSL_all l
 | .tup l=>by simp only [wkS]; exact wkSL_all l
 | .fn _ a c=>by simp only [wkS]; exact all_app (wkSL_all a) (wkSL_all c)
 | .raw _=>⟨rfl,trivial⟩
 | .elt _=>⟨rfl,trivial⟩
 | .nils=>trivial
 | .own _=>trivial
 | .loc _ _=>trivial
 | .relt _ _ _ _=>trivial
 | .osub _ _ _ _=>trivial
 | .any=>trivial
 | .junk=>trivial
theorem wkSL_all:∀ l:List SV,All (wkSL l)
 | []=>trivial
 | s :: l=>by simp only [wkSL]; exact all_app (wkS_all s) (wkSL_all l)
end
def frS:Fr->List Prop
 | []=>[]
 | (_,t) :: l=>wkS t++frS l
def blS:Blk->List Prop
 | .cells l _=>wkSL l
 | .row _ _ xs=>[xs=xs]
 | .mp _ _ es=>[es=es]
 | .lp _ q=>[q=q]
def mmS:Mem->List Prop
 | []=>[]
 | (_,b) :: l=>blS b++mmS l
theorem frS_all:∀ l:Fr,All (frS l)
 | []=>trivial
 | (_,t) :: l=>all_app (wkS_all t) (frS_all l)
theorem mmS_all:∀ l:Mem,All (mmS l)
 | []=>trivial
 | (_,.cells l' _) :: l=>all_app (wkSL_all l') (mmS_all l)
 | (_,.row _ _ _) :: l=>⟨rfl,mmS_all l⟩
 | (_,.mp _ _ _) :: l=>⟨rfl,mmS_all l⟩
 | (_,.lp _ _) :: l=>⟨rfl,mmS_all l⟩
theorem le_s {N n0:Nat}{s s':St}(σ:List (Nat×Nat))(ps:List (Nat×Pf):=[])(h:lechk n0 σ s s'=some (pat ps 0 (frS s'.fr++mmS s'.mem)):=by kernel_rfl):Le N n0 s s':=le_of σ _ h (pat_all _ _ _ (all_app (frS_all _) (mmS_all _)))
theorem wk_s {y t:SV}(ps:List (Nat×Pf):=[])(h:wkc 0 [] y t=some (pat ps 0 (wkS t)):=by kernel_rfl):WkD y t:=wkd _ h (pat_all _ _ _ (wkS_all t))
theorem pf_all:∀ ps:List Pf,All (ps.map Pf.p)
 | []=>trivial
 | p :: ps=>⟨p.h,pf_all ps⟩
section
variable {rd:Option Nat} {P:Program} {T:Tab} {N n0:Nat} {ops:Array Oper} {mem:Mem} {nx:Nat}
theorem xcall_pub' {f:Nat}{args args':List SV}{R:SV->Prop}{K:SV->Mem->Nat->Prop}(h:Pub P f args' R)(ks:List Prop)(hw:wkcL 0 [] args args'=some ks)(hks:All ks)(hb:bdL 0 args'=true)(hk:∀ sv,R sv->K sv mem nx):XCall P f args mem nx K:=by
 refine ⟨h.1,fun Γ ρ w vs hi hd hbd=>?_⟩
 have hd':DenL Γ ρ args' vs:=by
  have:=wkcL_sound (n0:=0) (σ:=[]) args args' vs ks hw hks hd
  rwa [via0] at this
 exact (xcall_pub (P:=P) h (WkL.refl args') hb hk).2 Γ ρ w vs hi hd' (bdL_mono (Nat.zero_le _) args' hb)
theorem pcall {i:Nat}{K:St->Prop}{s:St}{f:Nat}{args args':List SV}{d:Option Nat}{R:SV->Prop}(h:callAt N ops s.fr i=some (f,args,d))(hp:Pub P f args' R)(ks:List Prop)(hw:wkcL 0 [] args args'=some ks)(hks:All ks)(hb:bdL 0 args'=true)
  (hk:∀ sv,R sv->XOi rd P N n0 ops (i + 1) K ⟨putO s.fr d sv,s.mem,s.nx⟩):XOi rd P N n0 ops i K s:=callx h (xcall_pub' hp ks hw hks hb hk)
theorem pcall1 {i:Nat}{K:St->Prop}{s:St}{f:Nat}{args args':List SV}{d:Option Nat}{sv:SV}(h:callAt N ops s.fr i=some (f,args,d))(hp:Pub P f args' (fun t=>t=sv))(ks:List Prop)(hw:wkcL 0 [] args args'=some ks)(hks:All ks)(hb:bdL 0 args'=true)
  (hk:XOi rd P N n0 ops (i + 1) K ⟨putO s.fr d sv,s.mem,s.nx⟩):XOi rd P N n0 ops i K s:=pcall h hp ks hw hks hb (fun _ e=>by rw [e]; exact hk)
theorem pqcall {i:Nat}{K:Fr->Prop}{fr:Fr}{f:Nat}{args args':List SV}{d:Option Nat}{sv:SV}(h:qcallAt ops fr i=some (f,args,d))(hp:Pub P f args' (fun t=>t=sv))(ks:List Prop)(hw:wkcL 0 [] args args'=some ks)(hks:All ks)(hb:bdL 0 args'=true)
  (hk:QOi P N ops mem nx (i + 1) K (putO fr d sv)):QOi P N ops mem nx i K fr:=by
 unfold qcallAt at h
 split at h
 ·rename_i o ho
  split at h
  ·rename_i f' args' hg hca
   simp only [Option.some.injEq,Prod.mk.injEq] at h
   obtain ⟨rfl,rfl,rfl⟩:=h
   unfold QOi
   rw [drop_cons ho]
   exact q_callx hg hca (xcall_pub' hp ks hw hks hb (fun _ hs=>⟨hs,rfl,rfl⟩)) hk
  ·cases h
 ·cases h
def rsM (mem:Mem):List Nat->Mem
 | []=>[]
 | t :: l=>match fnd mem t with
  | some s=>(t,s) :: rsM mem l
  | none=>rsM mem l
theorem fnd_rsM (mem:Mem):∀ (l:List Nat) (t:Nat) (s:Blk),fnd (rsM mem l) t=some s->fnd mem t=some s
 | [],t,s,h=>by simp [rsM,fnd] at h
 | u :: l,t,s,h=>by
  simp only [rsM] at h
  split at h
  ·rename_i x hx
   rw [fnd_cons] at h
   split at h
   ·rename_i e; subst e; cases h; exact hx
   ·exact fnd_rsM mem l t s h
  ·exact fnd_rsM mem l t s h
theorem le_cut (s:St)(kf km:List Nat):Le N n0 s ⟨rs s.fr kf,rsM s.mem km,s.nx⟩:=fun _ ρ _ _ hn hok =>
 ⟨ρ,Env.same_refl _ _,hn,⟨⟨hok.inv.pub,fun r B hB=>hok.inv.priv r B (fnd_rsM _ _ _ _ hB),fun r r' b B B' h1 h2=>hok.inv.inj r r' b B B' (fnd_rsM _ _ _ _ h1) (fnd_rsM _ _ _ _ h2)⟩,hok.marks,hok.frame.size,fun d x hx=>hok.frame.slot d x (fnd_rs _ _ _ _ hx).2⟩,
  fun _ ⟨r,B,hB,hb⟩=>⟨r,B,fnd_rsM _ _ _ _ hB,hb⟩⟩
def xrunk (T:Tab)(N:Nat)(ops:Array Oper)(orc:List (Nat×SV))(n i:Nat)(kf km:List Nat)(s:St):Option (St×List Prop) :=
 match xruni T N ops orc n i s with
 | some (s',ks)=>some (⟨rs s'.fr kf,rsM s'.mem km,s'.nx⟩,ks)
 | none=>none
theorem runk (hT:TabOk P T)(orc:List (Nat×SV))(n i:Nat)(kf km:List Nat){s:St}(s':St)(ks:List Prop){K:St->Prop}(h:xrunk T N ops orc n i kf km s=some (s',ks))(hk:All ks)(hx:XOi rd P N n0 ops (i + n) K s'):XOi rd P N n0 ops i K s:=by
 unfold xrunk at h
 split at h
 ·rename_i s1 k1 hr
  simp only [Option.some.injEq,Prod.mk.injEq] at h
  obtain ⟨rfl,rfl⟩:=h
  exact run hT orc n i s s1 _ hr hk (xo_le (le_cut s1 kf km) hx)
 ·cases h
theorem QO.sub {l:List Oper}{K:Fr->Prop}{fr fr':Fr}(h:QO P N ops mem nx l K fr')(hs:∀ t,fnd fr t=fnd fr' t):QO P N ops mem nx l K fr:=by
 obtain ⟨ss,fr2,h1,h2,h3⟩:=h
 exact ⟨ss,fr2,h1.congr (fun t=>(hs t).symm),fun t s h=>by rw [lexFr_congr l ss hs t]; exact h2 t s h,h3⟩
theorem dregk (hm:P.follows .mixedOrders=true){id:Nat}{K:XE->St->Prop}{s:St}(hd:drawOk N ops=true)(h:QOi P N ops s.mem s.nx 0 (fun fr2=>K .normal ⟨fr2,s.mem,s.nx⟩) s.fr):XW rd P N n0 (.region id ops true) K s:=by
 cases s; exact dreg hm hd h
def BackX (T:Tab)(rs:Array ResultVar)(K:SV->Mem->Nat->Prop):XE->St->Prop
 | .ret,s | .normal,s=>∃ x,xres T s rs=some x/\K x s.mem s.nx
 | _,_=>False
theorem xcall_of (hT:TabOk P T){f:Nat}{fn:Func}{c:Code}(hf:P.funcs[f]? = some fn)(hb:fn.body=some c)(hne:fn.name≠ "runtime.NumGoroutine"){args:List SV}{K:SV->Mem->Nat->Prop}(hN:args.length<=fn.ntmps)
  (h:XW none P fn.ntmps nx c (BackX T fn.results K) ⟨argFr 0 args,mem,nx⟩):XCall P f args mem nx K:=by
 refine ⟨⟨fn,hf,hne,by rw [hb]; rfl⟩,fun Γ ρ w vs hi hd hbd=>?_⟩
 refine (callsIn_wide (n:=0)).1 (callsIn_of_wp_marks hf hb trivial ?_ rfl)
 refine wpIn_mono (h (Γ.re w.heap.size) ρ w _ (Nat.le_refl _) ⟨hi.relo _,MkOk.nil (Nat.le_refl _),argFr_ok (DenL.ext0 (Gh.sub_re Γ _) _ _ (Env.same_refl nx ρ) hbd hd) hbd hN⟩) ?_
 rintro e a' w1 ⟨xe,Γ',ρ',s',rfl,hok1,hnxt,hback⟩
 have key:(∃ x,xres T s' fn.results=some x/\K x s'.mem s'.nx)->LeavesInM (fnc none) 0 P fn a'.tmps (fun e w'=>∃ v sv Γ' ρ' mem' nx',e = .returned v/\Inv Γ' ρ' nx' mem' w'/\Den Γ' ρ' sv v/\sv.bd nx'=true/\Stp ρ mem w ρ' mem' w'/\Γ.le Γ'/\Env.same nx ρ ρ'/\nx<=nx' /\
   (∀ b,Γ' b≠none->Γ b≠none\/Owned ρ mem b\/w.heap.size<=b)/\K sv mem' nx') a'.defers .returning w1:=by
  rintro ⟨x,h1,h2⟩
  obtain ⟨_,bs,e1,e2,e3⟩:=hok1.marks
  rw [e1]
  refine leaves_marks bs w1 e2 (fun b hb=>(e3 b hb).2) fun w' hcl=>?_
  have hok:=hcl.ok (fun b hb=>(e3 b hb).2) hok1
  have hstp:=hcl.stp (w0:=w) (fun b hb=>by have:=(e3 b hb).1; rw [hnxt.le.2] at this; exact this) hnxt.stp
  obtain ⟨v,g1,g2,g3⟩:=xres_sound hT hok h1
  exact ⟨v,g1,v,x,Γ'.re Γ.lo,ρ',s'.mem,s'.nx,rfl,hok.inv.relo _,Den.ext0 (Gh.sub_re _ _) x v (Env.same_refl s'.nx ρ') g3 g2,g3,hstp,⟨hnxt.le.1,rfl⟩,hnxt.same,hnxt.nx,hnxt.new,h2⟩
 cases xe with
 | normal=>exact key hback
 | ret=>exact key hback
 | exit i=>exact hback.elim
 | goto l=>exact hback.elim
end
end Go.Proofs.YtmmfpkkamgapkaaGreat.X
