/- Calls that change one's own memory,by a contract under names of its own: for closures that call themselves. -/
import Derived.Test.YtmmfpkkamgapkaaGreatXq
namespace Go.Proofs.YtmmfpkkamgapkaaGreat.X
open Go Go.RowKit
theorem blt_t {a b:Nat}(h:a<b):Nat.blt a b=true:=by simpa using h
theorem blt_l {a b:Nat}(h:Nat.blt a b=true):a<b:=by simpa using h
mutual
def SV.ren (τ:Nat->Nat):SV->SV
 | .loc r o=>.loc (τ r) o
 | .own r=>.own (τ r)
 | .relt r z i o=>.relt (τ r) z i o
 | .osub r z lo n=>.osub (τ r) z lo n
 | .agg l=>.agg (renL τ l)
 | .tup l=>.tup (renL τ l)
 | .fn f a c=>.fn f (renL τ a) (renL τ c)
 | s=>s
def renL (τ:Nat->Nat):List SV->List SV
 | []=>[]
 | s :: l=>s.ren τ :: renL τ l
end
def RenOk (τ:Nat->Nat)(k:Nat)(ρ1 ρ2:Env):Prop:=∀ r,r<k->ρ2.blk (τ r)=ρ1.blk r/\ρ2.val (τ r)=ρ1.val r
mutual
theorem Den.ren {Γ:Gh}{τ:Nat->Nat}{k:Nat}{ρ1 ρ2:Env}(hτ:RenOk τ k ρ1 ρ2):∀ (s:SV) (v:Value),s.bd k=true->(Den Γ ρ1 s v↔Den Γ ρ2 (s.ren τ) v)
 | .loc r o,v,hb=>by
  have hr:r<k:=by simpa [SV.bd] using hb
  simp only [SV.ren,Den,(hτ r hr).1]
 | .own r,v,hb=>by
  have hr:r<k:=by simpa [SV.bd] using hb
  simp only [SV.ren,Den,(hτ r hr).2]
 | .relt r z i o,v,hb=>by
  have hr:r<k:=by simpa [SV.bd] using hb
  simp only [SV.ren,Den,(hτ r hr).1]
 | .osub r z lo n,v,hb=>by
  have hr:r<k:=by simpa [SV.bd] using hb
  simp only [SV.ren,Den,(hτ r hr).1]
 | .agg l,v,hb=>by
  simp only [SV.ren,Den]
  exact ⟨fun ⟨vs,e,h⟩=>⟨vs,e,(DenL.ren hτ l _ hb).1 h⟩,fun ⟨vs,e,h⟩=>⟨vs,e,(DenL.ren hτ l _ hb).2 h⟩⟩
 | .tup l,v,hb=>by
  simp only [SV.ren,Den]
  exact ⟨fun ⟨vs,e,h⟩=>⟨vs,e,(DenL.ren hτ l _ hb).1 h⟩,fun ⟨vs,e,h⟩=>⟨vs,e,(DenL.ren hτ l _ hb).2 h⟩⟩
 | .fn f a c,v,hb=>by
  simp only [SV.bd,Bool.and_eq_true] at hb
  simp only [SV.ren,Den]
  exact ⟨fun ⟨va,vc,e,h1,h2⟩=>⟨va,vc,e,(DenL.ren hτ a _ hb.1).1 h1,(DenL.ren hτ c _ hb.2).1 h2⟩,fun ⟨va,vc,e,h1,h2⟩=>⟨va,vc,e,(DenL.ren hτ a _ hb.1).2 h1,(DenL.ren hτ c _ hb.2).2 h2⟩⟩
 | .int _ _,v,_=>by simp only [SV.ren,Den]
 | .bool _,v,_=>by simp only [SV.ren,Den]
 | .nils,v,_=>by simp only [SV.ren,Den]
 | .sl _ _ _,v,_=>by simp only [SV.ren,Den]
 | .elt _,v,_=>by simp only [SV.ren,Den]
 | .raw _,v,_=>by simp only [SV.ren,Den]
 | .any,v,_=>by simp only [SV.ren,Den]
 | .junk,v,_=>by simp only [SV.ren,Den]
theorem DenL.ren {Γ:Gh}{τ:Nat->Nat}{k:Nat}{ρ1 ρ2:Env}(hτ:RenOk τ k ρ1 ρ2):∀ (l:List SV) (vs:List Value),bdL k l=true->(DenL Γ ρ1 l vs↔DenL Γ ρ2 (renL τ l) vs)
 | [],vs,_=>by simp only [renL,DenL]
 | s :: l,vs,hb=>by
  simp only [bdL,Bool.and_eq_true] at hb
  simp only [renL,DenL]
  exact ⟨fun ⟨v,r,e,h1,h2⟩=>⟨v,r,e,(Den.ren hτ s v hb.1).1 h1,(DenL.ren hτ l r hb.2).1 h2⟩,fun ⟨v,r,e,h1,h2⟩=>⟨v,r,e,(Den.ren hτ s v hb.1).2 h1,(DenL.ren hτ l r hb.2).2 h2⟩⟩
end
mutual
theorem SV.ren_bd {τ:Nat->Nat}{k n:Nat}(hτ:∀ r,r<k->τ r<n):∀ s:SV,s.bd k=true->(s.ren τ).bd n=true
 | .loc r o,hb=>by simp only [SV.ren,SV.bd,Nat.blt_eq] at *; exact hτ r hb
 | .own r,hb=>by simp only [SV.ren,SV.bd,Nat.blt_eq] at *; exact hτ r hb
 | .relt r z i o,hb=>by simp only [SV.ren,SV.bd,Nat.blt_eq] at *; exact hτ r hb
 | .osub r z lo m,hb=>by simp only [SV.ren,SV.bd,Nat.blt_eq] at *; exact hτ r hb
 | .agg l,hb=>by simp only [SV.ren,SV.bd] at *; exact renL_bd hτ l hb
 | .tup l,hb=>by simp only [SV.ren,SV.bd] at *; exact renL_bd hτ l hb
 | .fn f a c,hb=>by
  simp only [SV.ren,SV.bd,Bool.and_eq_true] at *
  exact ⟨renL_bd hτ a hb.1,renL_bd hτ c hb.2⟩
 | .int _ _,_=>rfl
 | .bool _,_=>rfl
 | .nils,_=>rfl
 | .sl _ _ _,_=>rfl
 | .elt _,_=>rfl
 | .raw _,_=>rfl
 | .any,_=>rfl
 | .junk,_=>rfl
theorem renL_bd {τ:Nat->Nat}{k n:Nat}(hτ:∀ r,r<k->τ r<n):∀ l:List SV,bdL k l=true->bdL n (renL τ l)=true
 | [],_=>rfl
 | s :: l,hb=>by
  simp only [renL,bdL,Bool.and_eq_true] at *
  exact ⟨SV.ren_bd hτ s hb.1,renL_bd hτ l hb.2⟩
end
def Blk.ren (τ:Nat->Nat):Blk->Blk
 | .cells l E=>.cells (renL τ l) E
 | B=>B
def Blk.plain:Blk->Bool
 | .cells _ _=>true
 | .row _ _ _=>true
 | .mp p _ _=>p
 | .lp _ _=>false
theorem BlkOk.ren {Γ:Gh}{τ:Nat->Nat}{k:Nat}{ρ1 ρ2:Env}(hτ:RenOk τ k ρ1 ρ2){w:World}{r:Nat}(hr:r<k){B:Blk}(hb:B.bd k=true)(hp:B.plain=true):BlkOk Γ ρ1 w r B↔BlkOk Γ ρ2 w (τ r) (B.ren τ):=by
 obtain ⟨e1,e2⟩:=hτ r hr
 cases B with
 | cells l E =>
  simp only [Blk.ren,BlkOk,e1]
  exact ⟨fun ⟨b,arr,h1,h2,h3,h4⟩=>⟨b,arr,h1,h2,(DenL.ren hτ l _ hb).1 h3,h4⟩,fun ⟨b,arr,h1,h2,h3,h4⟩=>⟨b,arr,h1,h2,(DenL.ren hτ l _ hb).2 h3,h4⟩⟩
 | row z E xs=>simp only [Blk.ren,BlkOk,e1,e2]
 | mp p q es =>
  simp only [Blk.plain] at hp
  subst hp
  simp only [Blk.ren,BlkOk,e1,e2,pe]
 | lp nb q=>cases hp
theorem Blk.ren_bd {τ:Nat->Nat}{k n:Nat}(hτ:∀ r,r<k->τ r<n){B:Blk}(hb:B.bd k=true)(hp:B.plain=true):(B.ren τ).bd n=true:=by
 cases B with
 | cells l E=>exact renL_bd hτ l hb
 | row z E xs=>rfl
 | mp p q es =>
  simp only [Blk.plain] at hp
  subst hp; rfl
 | lp nb q=>cases hp
def renM (τ:Nat->Nat):Mem->Mem
 | []=>[]
 | (r,B) :: l=>(τ r,B.ren τ) :: renM τ l
def dels:Mem->List Nat->Mem
 | m,[]=>m
 | m,r :: l=>dels (del m r) l
theorem fnd_dels:∀ (l:List Nat) (m:Mem) (r:Nat) (B:Blk),fnd (dels m l) r=some B->fnd m r=some B/\r∉l
 | [],m,r,B,h=>⟨h,by simp⟩
 | a :: l,m,r,B,h=>by
  obtain ⟨h1,h2⟩:=fnd_dels l (del m a) r B h
  rw [fnd_del] at h1
  split at h1
  ·cases h1
  ·rename_i hne
   exact ⟨h1,by simp only [List.mem_cons,not_or]; exact ⟨hne,h2⟩⟩
theorem fnd_app (m1 m2:Mem)(r:Nat):fnd (m1++m2) r=match fnd m1 r with
  | some B=>some B
  | none=>fnd m2 r:=by
 induction m1 with
 | nil=>rfl
 | cons p m ih =>
  obtain ⟨q,B⟩:=p
  rw [List.cons_append,fnd_cons,fnd_cons,ih]
  split <;> rfl
theorem fnd_renM {τ:Nat->Nat}{k:Nat}(hinj:∀ a b,a<k->b<k->τ a=τ b->a=b):∀ (m:Mem) (r:Nat) (B:Blk),(∀ p∈m,p.1<k)->fnd (renM τ m) r=some B->∃ q B',fnd m q=some B'/\q<k/\r=τ q/\B=B'.ren τ
 | [],r,B,_,h=>by simp [renM,fnd] at h
 | (a,C) :: m,r,B,hk,h=>by
  have ha:a<k:=hk (a,C) List.mem_cons_self
  simp only [renM,fnd_cons] at h
  split at h
  ·rename_i e
   cases h
   exact ⟨a,C,by rw [fnd_cons,if_pos rfl],ha,e.symm,rfl⟩
  ·rename_i e
   obtain ⟨q,B',h1,h2,h3,h4⟩:=fnd_renM hinj m r B (fun p hp=>hk p (List.mem_cons_of_mem _ hp)) h
   refine ⟨q,B',?_,h2,h3,h4⟩
   rw [fnd_cons,if_neg (fun e2=>e (by rw [e2,h3]))]
   exact h1
def MCall (P:Program)(f:Nat)(args:List SV)(M:Mem)(k p:Nat)(R:SV->Mem->Prop):Prop :=
 Enterable P f/\∀ Γ ρ w vs,Inv Γ ρ k M w->DenL Γ ρ args vs->Calls P f vs.toArray w fun e w' =>
  ∃ v sv Γ' ρ' M',e = .returned v/\Inv Γ' ρ' k M' w'/\Den Γ' Env.nil sv v/\Stp ρ M w ρ' M' w'/\Γ.le Γ'/\Env.same p ρ ρ'/\(∀ b,Γ' b≠none->Γ b≠none\/Owned ρ M b\/w.heap.size<=b)/\R sv M'
theorem MCall.mono {P:Program}{f:Nat}{args:List SV}{M:Mem}{k p:Nat}{R R':SV->Mem->Prop}(h:MCall P f args M k p R)(hr:∀ s m,R s m->R' s m):MCall P f args M k p R' :=
 ⟨h.1,fun Γ ρ w vs h1 h2=>(h.2 Γ ρ w vs h1 h2).mono fun _ _ ⟨v,sv,Γ',ρ',M',g1,g2,g3,g4,g5,g6,g7,g8⟩=>⟨v,sv,Γ',ρ',M',g1,g2,g3,g4,g5,g6,g7,hr _ _ g8⟩⟩
theorem mcall_of {P:Program}{f:Nat}{args:List SV}{M:Mem}{k p:Nat}{R:SV->Mem->Prop}(hbd:bdL k args=true)(hpk:Nat.ble p k=true)(h:XCall P f args M k fun sv mem' nx'=>∃ M',R sv M'/\sv.bd 0=true/\Le 0 p ⟨[],mem',nx'⟩ ⟨[],M',k⟩):MCall P f args M k p R:=by
 have hpk:=Nat.le_of_ble_eq_true hpk
 refine ⟨h.1,fun Γ ρ w vs hi hd=>(h.2 Γ ρ w vs hi hd hbd).mono ?_⟩
 rintro e w' ⟨v,sv,Γ',ρ',mem',nx',g1,g2,g3,_,g5,g6,g7,g8,g9,M',k1,k2,k3⟩
 have hok:Ok (Γ'.re 0) ρ' 0 ⟨[],mem',nx'⟩ w' (⟨#[],[]⟩ : Act):=⟨g2.relo 0,MkOk.nil (Nat.zero_le _),rfl,fun d s hs=>by simp [fnd] at hs⟩
 obtain ⟨ρ2,h1,_,h3,h4⟩:=k3 (Γ'.re 0) ρ' w' _ (Nat.le_trans hpk g8) hok
 refine ⟨v,sv,Γ',ρ2,M',g1,h3.inv.relo Γ'.lo,?_,?_,g6,Env.same_trans (Env.same_mono hpk g7) h1,g9,k1⟩
 ·exact g3.ofBd0 k2
 ·exact ⟨g5.os,g5.tape,g5.output,g5.size,g5.keep,fun b hb=>g5.own b (h4 b hb)⟩
def tauB (τ:Nat->Nat)(p nx:Nat)(r:Nat):Nat:=match Nat.blt r p with
 | true=>τ r
 | false=>nx + (r - p)
theorem xcall_m {P:Program}{f:Nat}{args:List SV}{M:Mem}{k p:Nat}{R:SV->Mem->Prop}(hM:MCall P f args M k p R)(τ:Nat->Nat){mem:Mem}{nx:Nat}{K:SV->Mem->Nat->Prop}
  (hargs:bdL k args=true) (hpk:p<=k) (hτ:∀ r,r<k->τ r<nx) (hinj:∀ a b,a<k->b<k->τ a=τ b->a=b)
  (hplain:∀ q∈M,q.1<k/\q.2.bd k=true/\q.2.plain=true) (hsub:∀ r B,fnd M r=some B->fnd mem (τ r)=some (B.ren τ))
  (hR:∀ sv M',R sv M'->∀ q∈M',q.1<k/\q.2.plain=true)
  (hk:∀ sv M',R sv M'->K sv (renM (tauB τ p nx) M'++dels mem (M.map fun q=>τ q.1)) (nx + (k - p))):XCall P f (renL τ args) mem nx K:=by
 refine ⟨hM.1,fun Γ ρ w vs hi hd _=>?_⟩
 have hren1:RenOk τ k ⟨fun r=>ρ.blk (τ r),fun r=>ρ.val (τ r)⟩ ρ:=fun r _=>⟨rfl,rfl⟩
 generalize hρ1:(⟨fun r=>ρ.blk (τ r),fun r=>ρ.val (τ r)⟩ : Env)=ρ1 at hren1
 have hmemM:∀ r B,fnd M r=some B->r<k/\B.bd k=true/\B.plain=true:=fun r B h=>by
  have:(r,B)∈M:=by
   clear hplain hsub hk hM
   induction M with
   | nil=>simp [fnd] at h
   | cons q M ih =>
    obtain ⟨a,C⟩:=q
    rw [fnd_cons] at h
    split at h
    ·rename_i e; subst e; cases h; exact List.mem_cons_self
    ·exact List.mem_cons_of_mem _ (ih h)
  exact hplain _ this
 have hi1:Inv Γ ρ1 k M w:=⟨hi.pub,fun r B hB=>by
   obtain ⟨h1,h2,h3⟩:=hmemM r B hB
   exact ⟨(BlkOk.ren hren1 h1 h2 h3).2 (hi.priv _ _ (hsub r B hB)).1,h1,h2⟩,fun r r' b B B' h1 h2 hb hb'=>by
   have k1:=(hmemM r B h1).1; have k2:=(hmemM r' B' h2).1
   rw [<- (hren1 r k1).1] at hb; rw [<- (hren1 r' k2).1] at hb'
   exact hinj r r' k1 k2 (hi.inj _ _ b _ _ (hsub r B h1) (hsub r' B' h2) hb hb')⟩
 have hown:∀ b,Owned ρ1 M b->Owned ρ mem b:=fun b ⟨r,B,h1,h2⟩=>⟨τ r,B.ren τ,hsub r B h1,by rw [(hren1 r (hmemM r B h1).1).1]; exact h2⟩
 refine (hM.2 Γ ρ1 w vs hi1 ((DenL.ren hren1 args vs hargs).2 hd)).mono ?_
 rintro e w' ⟨v,sv,Γ',ρ',M',g1,g2,g3,g4,g5,g6,g7,g8⟩
 have hM':=hR sv M' g8
 let ρ3:Env:=⟨fun r=>if r<nx then ρ.blk r else ρ'.blk (r - nx + p),fun r=>if r<nx then ρ.val r else ρ'.val (r - nx + p)⟩
 have hs3:Env.same nx ρ ρ3:=fun r hr=>by simp [ρ3,hr]
 have hτ3:∀ r,r<k->tauB τ p nx r<nx + (k - p):=fun r hr=>by
  unfold tauB
  split
  ·have:=hτ r hr; omega
  ·rename_i h
   have:¬ r<p:=fun h2=>by rw [blt_t h2] at h; cases h
   omega
 have hren3:RenOk (tauB τ p nx) k ρ' ρ3:=fun r hr=>by
  unfold tauB
  split
  ·rename_i h
   have hrp:r<p:=blt_l h
   have h1:=hτ r hr
   have h2:=g6 r hrp
   rw [(hs3 _ h1).1,(hs3 _ h1).2,(hren1 r hr).1,(hren1 r hr).2]
   exact ⟨h2.1.symm,h2.2.symm⟩
  ·rename_i h
   have hrp:¬ r<p:=fun h2=>by rw [blt_t h2] at h; cases h
   have e1:¬ nx + (r - p)<nx:=om
   have e2:nx + (r - p) - nx + p=r:=om
   simp only [ρ3,if_neg e1,e2]
   exact ⟨trivial,trivial⟩
 have ht:∀ r,tauB τ p nx r=if r<p then τ r else nx + (r - p):=fun r=>by
  unfold tauB
  by_cases h:r<p
  ·rw [blt_t h,if_pos h]
  ·have:Nat.blt r p=false:=by
    cases hq:Nat.blt r p with
    | false=>rfl
    | true=>exact absurd (blt_l hq) h
   rw [this,if_neg h]
 have hinj3:∀ a b,a<k->b<k->tauB τ p nx a=tauB τ p nx b->a=b:=fun a b ha hb he=>by
  rw [ht a,ht b] at he
  by_cases h1:a<p <;> by_cases h2:b<p
  ·rw [if_pos h1,if_pos h2] at he; exact hinj a b ha hb he
  ·rw [if_pos h1,if_neg h2] at he; have:=hτ a ha; omega
  ·rw [if_neg h1,if_pos h2] at he; have:=hτ b hb; omega
  ·rw [if_neg h1,if_neg h2] at he; omega
 have look:∀ r B,fnd (renM (tauB τ p nx) M'++dels mem (M.map fun q=>τ q.1)) r=some B ->
   (∃ q B',fnd M' q=some B'/\q<k/\r=tauB τ p nx q/\B=B'.ren (tauB τ p nx)/\B'.plain=true)\/(fnd mem r=some B/\∀ q C,fnd M q=some C->τ q≠r):=fun r B h=>by
  rw [fnd_app] at h
  split at h
  ·rename_i C hC
   cases h
   obtain ⟨q,B',h1,h2,h3,h4⟩:=fnd_renM hinj3 M' r B (fun x hx=>(hM' x hx).1) hC
   refine .inl ⟨q,B',h1,h2,h3,h4,?_⟩
   have:(q,B')∈M':=by
    clear hM' g8 hC g2 g4
    induction M' with
    | nil=>simp [fnd] at h1
    | cons x M' ih =>
     obtain ⟨a,C⟩:=x
     rw [fnd_cons] at h1
     split at h1
     ·rename_i e; subst e; cases h1; exact List.mem_cons_self
     ·exact List.mem_cons_of_mem _ (ih h1)
   exact (hM' _ this).2
  ·obtain ⟨h1,h2⟩:=fnd_dels _ _ _ _ h
   refine .inr ⟨h1,fun q C hq e=>h2 ?_⟩
   have:(q,C)∈M:=by
    clear hplain hsub hk hM hi1 hown g4 hmemM h2 h g7
    induction M with
    | nil=>simp [fnd] at hq
    | cons x M ih =>
     obtain ⟨a,D⟩:=x
     rw [fnd_cons] at hq
     split at hq
     ·rename_i e; subst e; cases hq; exact List.mem_cons_self
     ·exact List.mem_cons_of_mem _ (ih hq)
   exact List.mem_map.2 ⟨_,this,e⟩
 have rest_not:∀ r B b,fnd mem r=some B->(∀ q C,fnd M q=some C->τ q≠r)->ρ.blk r=some b->¬ Owned ρ1 M b:=fun r B b h1 h2 h3 ⟨q,C,h4,h5⟩=>by
  have hq:=(hmemM q C h4).1
  rw [<- (hren1 q hq).1] at h5
  exact h2 q C h4 (hi.inj _ _ b _ _ (hsub q C h4) h1 h5 h3)
 have hown3:∀ b,Owned ρ3 (renM (tauB τ p nx) M'++dels mem (M.map fun q=>τ q.1)) b->Owned ρ mem b\/w.heap.size<=b:=by
  rintro b ⟨r,B,hB,hb⟩
  rcases look r B hB with ⟨q,B',h1,h2,rfl,_,_⟩ | ⟨h1,_⟩
  ·rw [(hren3 q h2).1] at hb
   exact (g4.own b ⟨q,B',h1,hb⟩).imp (hown b) id
  ·obtain ⟨_,h3,_⟩:=hi.priv r B h1
   rw [(hs3 r h3).1] at hb
   exact .inl ⟨r,B,h1,hb⟩
 refine ⟨v,sv,Γ',ρ3,_,_,g1,⟨g2.pub,fun r B hB=>?_,fun r r' b B B' hB hB' hb hb'=>?_⟩,(Den.ofNil sv v g3).1,?_,⟨g4.os,g4.tape,g4.output,g4.size,fun b hb ho=>g4.keep b hb (fun h=>ho (hown b h)),hown3⟩,g5,hs3,Nat.le_add_right _ _,fun b hb=>(g7 b hb).imp id (fun h=>h.imp (hown b) id),hk sv M' g8⟩
 ·rcases look r B hB with ⟨q,B',h1,h2,rfl,rfl,h5⟩ | ⟨h1,h2⟩
  ·obtain ⟨k1,_,k3⟩:=g2.priv q B' h1
   exact ⟨(BlkOk.ren hren3 h2 k3 h5).1 k1,hτ3 q h2,Blk.ren_bd hτ3 k3 h5⟩
  ·obtain ⟨k1,k2,k3⟩:=hi.priv r B h1
   refine ⟨k1.move g5 hs3 k2 k3 (fun b hb=>?_),Nat.lt_of_lt_of_le k2 (Nat.le_add_right _ _),B.bd_mono (Nat.le_add_right _ _) k3⟩
   have hno:=rest_not r B b h1 h2 hb
   refine ⟨g4.keep b (k1.lt hb) hno,fun hn=>?_⟩
   cases hq:Γ' b with
   | none=>rfl
   | some cs =>
    rcases g7 b (by simp [hq]) with h | h | h
    ·exact absurd hn h
    ·exact absurd h hno
    ·have:=k1.lt hb; omega
 ·rcases look r B hB with ⟨q,C,h1,h2,rfl,_,_⟩ | ⟨h1,h2⟩ <;> rcases look r' B' hB' with ⟨q',C',k1,k2,rfl,_,_⟩ | ⟨k1,k2⟩
  ·rw [(hren3 q h2).1] at hb; rw [(hren3 q' k2).1] at hb'
   rw [g2.inj q q' b C C' h1 k1 hb hb']
  ·exfalso
   rw [(hren3 q h2).1] at hb
   obtain ⟨j1,j2,_⟩:=hi.priv r' B' k1
   rw [(hs3 r' j2).1] at hb'
   rcases g4.own b ⟨q,C,h1,hb⟩ with h | h
   ·exact rest_not r' B' b k1 k2 hb' h
   ·have:=j1.lt hb'; omega
  ·exfalso
   rw [(hren3 q' k2).1] at hb'
   obtain ⟨j1,j2,_⟩:=hi.priv r B h1
   rw [(hs3 r j2).1] at hb
   rcases g4.own b ⟨q',C',k1,hb'⟩ with h | h
   ·exact rest_not r B b h1 h2 hb h
   ·have:=j1.lt hb; omega
  ·obtain ⟨_,j2,_⟩:=hi.priv r B h1
   obtain ⟨_,j2',_⟩:=hi.priv r' B' k1
   rw [(hs3 r j2).1] at hb; rw [(hs3 r' j2').1] at hb'
   exact hi.inj r r' b B B' h1 k1 hb hb'
 ·by_cases hj:sv = .junk
  ·subst hj; rfl
  ·exact (Den.ofNil (ρ:=ρ3) sv v g3).2 _ hj
def nthN:List Nat->Nat->Nat
 | [],r=>r
 | a :: _,0=>a
 | _ :: l,r + 1=>nthN l r
def memEqs (mem:Mem)(τ:Nat->Nat):Mem->List Prop
 | []=>[]
 | (r,B) :: l=>(fnd mem (τ r)=some (B.ren τ)) :: memEqs mem τ l
theorem memEqs_sound {mem:Mem}{τ:Nat->Nat} : ∀ {M:Mem},All (memEqs mem τ M)->∀ r B,fnd M r=some B->fnd mem (τ r)=some (B.ren τ)
 | [],_,r,B,h=>by simp [fnd] at h
 | (a,C) :: M,hk,r,B,h=>by
  rw [fnd_cons] at h
  split at h
  ·rename_i e; subst e; cases h; exact hk.1
  ·exact memEqs_sound hk.2 r B h
def plainM (k:Nat):Mem->Bool
 | []=>true
 | (r,B) :: l=>Nat.blt r k && B.bd k && B.plain && plainM k l
theorem plainM_sound {k:Nat} : ∀ {M:Mem},plainM k M=true->∀ q∈M,q.1<k/\q.2.bd k=true/\q.2.plain=true
 | [],_,q,h=>by cases h
 | (a,C) :: M,hp,q,h=>by
  simp only [plainM,Bool.and_eq_true] at hp
  rcases List.mem_cons.1 h with rfl | h
  ·exact ⟨blt_l hp.1.1.1,hp.1.1.2,hp.1.2⟩
  ·exact plainM_sound hp.2 q h
def hasNm:List Nat->Nat->Bool
 | [],_=>false
 | a :: l,n=>Nat.beq a n || hasNm l n
def namesOk (n:Nat):List Nat->Bool
 | []=>true
 | a :: l=>Nat.blt a n && !hasNm l a && namesOk n l
theorem hasNm_nth:∀ (l:List Nat) (r:Nat),r<l.length->hasNm l (nthN l r)=true
 | [],r,h=>by simp at h
 | a :: l,0,_=>by simp [hasNm,nthN]
 | a :: l,r + 1,h=>by simp only [hasNm,nthN,Bool.or_eq_true]; exact .inr (hasNm_nth l r (by simpa using h))
theorem namesOk_sound {n:Nat} : ∀ {l:List Nat},namesOk n l=true->(∀ r,r<l.length->nthN l r<n)/\∀ a b,a<l.length->b<l.length->nthN l a=nthN l b->a=b
 | [],_=>⟨fun r h=>by simp at h,fun a b h=>by simp at h⟩
 | c :: l,h=>by
  simp only [namesOk,Bool.and_eq_true,Bool.not_eq_true'] at h
  obtain ⟨⟨h1,h2⟩,h3⟩:=h
  obtain ⟨g1,g2⟩:=namesOk_sound h3
  refine ⟨fun r hr=>?_,fun a b ha hb he=>?_⟩
  ·cases r with
   | zero=>exact blt_l h1
   | succ r=>exact g1 r (by simpa using hr)
  ·cases a <;> cases b
   ·rfl
   ·rename_i b
    simp only [nthN] at he
    have:=hasNm_nth l b (by simpa using hb)
    rw [<- he,h2] at this; cases this
   ·rename_i a
    simp only [nthN] at he
    have:=hasNm_nth l a (by simpa using ha)
    rw [he,h2] at this; cases this
   ·simp only [nthN] at he
    congr 1
    exact g2 _ _ (by simpa using ha) (by simpa using hb) he
def memHas (mem:Mem):Mem->List Prop
 | []=>[]
 | (r,B) :: l=>(fnd mem r=some B) :: memHas mem l
theorem memHas_sound {mem:Mem} : ∀ {M:Mem},All (memHas mem M)->∀ r B,fnd M r=some B->fnd mem r=some B
 | [],_,r,B,h=>by simp [fnd] at h
 | (a,C) :: M,hk,r,B,h=>by
  rw [fnd_cons] at h
  split at h
  ·rename_i e; subst e; cases h; exact hk.1
  ·exact memHas_sound hk.2 r B h
theorem mem_of_fnd:∀ {M:Mem} {r:Nat} {B:Blk},fnd M r=some B->(r,B)∈M
 | [],r,B,h=>by simp [fnd] at h
 | (a,C) :: M,r,B,h=>by
  rw [fnd_cons] at h
  split at h
  ·rename_i e; subst e; cases h; exact List.mem_cons_self
  ·exact List.mem_cons_of_mem _ (mem_of_fnd h)
theorem le_cutm {N n0:Nat}{s:St}{M:Mem}{k:Nat}(h:All (memHas s.mem M))(hp:plainM k M=true:=by kernel_rfl)(hn:Nat.ble n0 k=true:=by kernel_rfl):Le N n0 s ⟨[],M,k⟩:=by
 intro Γ ρ w a hn0 hok
 have g:=memHas_sound h
 have g2:=plainM_sound hp
 refine ⟨ρ,Env.same_refl _ _,Nat.le_of_ble_eq_true hn,⟨⟨hok.inv.pub,fun r B hB=>?_,fun r r' b B B' hB hB' hb hb'=>?_⟩,hok.marks,hok.frame.size,fun d s hd=>by simp [fnd] at hd⟩,?_⟩
 ·have:=g2 _ (mem_of_fnd hB)
  exact ⟨(hok.inv.priv r B (g r B hB)).1,this.1,this.2.1⟩
 ·exact hok.inv.inj r r' b B B' (g r B hB) (g r' B' hB') hb hb'
 ·rintro b ⟨r,B,hB,hb⟩
  exact ⟨r,B,g r B hB,hb⟩
section
variable {rd:Option Nat} {P:Program} {N n0:Nat} {ops:Array Oper}
theorem mcall2 {i:Nat}{K:St->Prop}{s:St}{f:Nat}{d:Option Nat}(τl:List Nat){args:List SV}{M:Mem}{k p:Nat}{R:SV->Mem->Prop}(hM:MCall P f args M k p R)(hsub:All (memEqs s.mem (nthN τl) M))(hR:∀ x m,R x m->plainM k m=true)
  (hk:∀ x m,R x m->XOi rd P N n0 ops (i + 1) K ⟨putO s.fr d x,renM (tauB (nthN τl) p s.nx) m++dels s.mem (M.map fun q=>nthN τl q.1),s.nx + (k - p)⟩)
  (h:callAt N ops s.fr i=some (f,renL (nthN τl) args,d):=by kernel_rfl) (hb:bdL k args=true:=by kernel_rfl) (hp:Nat.ble p k=true:=by kernel_rfl) (hl:Nat.beq τl.length k=true:=by kernel_rfl) (hn:namesOk s.nx τl=true:=by kernel_rfl) (hpl:plainM k M=true:=by kernel_rfl):XOi rd P N n0 ops i K s:=by
 have hl:=Nat.eq_of_beq_eq_true hl
 obtain ⟨g1,g2⟩:=namesOk_sound hn
 refine callx h (xcall_m hM (nthN τl) hb (Nat.le_of_ble_eq_true hp) (fun r hr=>g1 r om) (fun a b ha hb=>g2 a b om om) (plainM_sound hpl) (memEqs_sound hsub) ?_ hk)
 intro x m hx q hq
 have:=plainM_sound (hR x m hx) q hq
 exact ⟨this.1,this.2.2⟩
theorem mst {i:Nat}{K:St->Prop}{s:St}(s':St)(hk:XOi rd P N n0 ops i K s')(he:s=s':=by kernel_rfl):XOi rd P N n0 ops i K s:=he ▸ hk
end
end Go.Proofs.YtmmfpkkamgapkaaGreat.X
