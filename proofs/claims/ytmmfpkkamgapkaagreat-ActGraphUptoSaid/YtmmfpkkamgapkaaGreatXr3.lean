/- A row of one's own that stands in a block's cell is shared,between two operations. -/
import Derived.Test.YtmmfpkkamgapkaaGreatXr2
namespace Go.Proofs.YtmmfpkkamgapkaaGreat.X
open Go Go.RowKit
def shr (r z:Nat)(xs:List SV):SV->SV
 | .own q=>match Nat.beq q r with
  | true=>.sl false z xs
  | false=>.own q
 | s=>s
theorem shr1 {Γ Γ':Gh}{ρ:Env}{nx r z:Nat}{xs:List SV}{u:Value}(hΓ:Γ.le Γ')(hu:ρ.val r=some u)(hd:Den Γ' ρ (.sl false z xs) u){s:SV}{v:Value}(hb:s.bd nx=true)(h:Den Γ ρ s v):Den Γ' ρ (shr r z xs s) v:=by
 unfold shr
 split
 ·split
  ·rename_i q _ e
   have e:=Nat.eq_of_beq_eq_true e
   subst e
   simp only [Den] at h
   rw [h.1] at hu
   cases hu
   exact hd
  ·exact Den.ext hΓ _ _ (Env.same_refl _ _) hb h
 ·exact Den.ext hΓ _ _ (Env.same_refl _ _) hb h
theorem shrB {nx r z:Nat}{xs:List SV}{s:SV}(hb:s.bd nx=true):(shr r z xs s).bd nx=true:=by
 unfold shr
 split
 ·split
  ·simp [SV.bd]
  ·exact hb
 ·exact hb
theorem shrL {Γ Γ':Gh}{ρ:Env}{nx r z:Nat}{xs:List SV}{u:Value}(hΓ:Γ.le Γ')(hu:ρ.val r=some u)(hd:Den Γ' ρ (.sl false z xs) u):∀ {l:List SV} {vs:List Value},bdL nx l=true->DenL Γ ρ l vs->DenL Γ' ρ (l.map (shr r z xs)) vs/\bdL nx (l.map (shr r z xs))=true
 | [],vs,_,h=>⟨by simpa only [List.map,DenL] using h,rfl⟩
 | s :: l,vs,hb,h=>by
  simp only [bdL,Bool.and_eq_true] at hb
  simp only [DenL] at h
  obtain ⟨v,t,e,d1,d2⟩:=h
  obtain ⟨g1,g2⟩:=shrL hΓ hu hd hb.2 d2
  refine ⟨?_,?_⟩
  ·simp only [List.map,DenL]; exact ⟨v,t,e,shr1 hΓ hu hd hb.1 d1,g1⟩
  ·simp only [List.map,bdL,Bool.and_eq_true]; exact ⟨shrB hb.1,g2⟩
section
variable {rd:Option Nat} {P:Program} {N n0:Nat} {ops:Array Oper}
theorem xoi_sharec {i:Nat}{K:St->Prop}{s:St}(c r:Nat){z E F:Nat}{xs l:List SV}(hc:fnd s.mem c=some (.cells l F))(hr:fnd s.mem r=some (.row z E xs))(hx:XOi rd P N n0 ops i K ⟨s.fr,(c,.cells (l.map (shr r z xs)) F) :: del (del s.mem r) c,s.nx⟩):XOi rd P N n0 ops i K s:=by
 intro Γ ρ w a Q hn hok hQ
 have hne:c≠r:=fun e=>by subst e; rw [hc] at hr; cases hr
 obtain ⟨v',hv',hcase⟩:=(hok.inv.priv r _ hr).1
 obtain ⟨⟨bc,ac,c1,c2,c3,c4,c5⟩,cn,cb⟩:=hok.inv.priv c _ hc
 have hold:∀ q B,fnd ((c,Blk.cells (l.map (shr r z xs)) F) :: del (del s.mem r) c) q=some B->(q=c/\B = .cells (l.map (shr r z xs)) F)\/(q≠c/\q≠r/\fnd s.mem q=some B):=fun q B hB=>by
  rw [fnd_cons] at hB
  split at hB
  ·rename_i e; cases hB; exact .inl ⟨e.symm,rfl⟩
  ·rename_i e
   rw [fnd_del,fnd_del] at hB
   split at hB
   ·cases hB
   ·split at hB
    ·cases hB
    ·rename_i e1 e2
     exact .inr ⟨fun h=>e h.symm,fun h=>e2 h,hB⟩
 have hex:∀ q B,fnd ((c,Blk.cells (l.map (shr r z xs)) F) :: del (del s.mem r) c) q=some B->q≠r/\∃ B0,fnd s.mem q=some B0:=fun q B hB=>by
  rcases hold q B hB with ⟨e,_⟩ | ⟨_,g,h⟩
  ·subst e; exact ⟨hne,_,hc⟩
  ·exact ⟨g,_,h⟩
 have hinj:∀ q q' b B B',fnd ((c,Blk.cells (l.map (shr r z xs)) F) :: del (del s.mem r) c) q=some B->fnd ((c,Blk.cells (l.map (shr r z xs)) F) :: del (del s.mem r) c) q'=some B'->ρ.blk q=some b->ρ.blk q'=some b->q=q':=fun q q' b B B' g1 g2=>by
  obtain ⟨_,_,h1⟩:=hex q B g1
  obtain ⟨_,_,h2⟩:=hex q' B' g2
  exact hok.inv.inj q q' b _ _ h1 h2
 have hstp:Stp ρ s.mem w ρ ((c,Blk.cells (l.map (shr r z xs)) F) :: del (del s.mem r) c) w:=⟨rfl,rfl,rfl,Nat.le_refl _,fun _ _ _=>rfl,fun b ⟨q,B,g1,g2⟩=>by
  obtain ⟨_,_,h1⟩:=hex q B g1
  exact .inl ⟨q,_,h1,g2⟩⟩
 have fin:∀ Γ':Gh,Γ.le Γ'->(∀ b cs,Γ' b=some cs->∃ E fz,w.heap[b]? = some (.cells cs.toArray E fz))->(∀ q B b,fnd s.mem q=some B->q≠r->ρ.blk q=some b->Γ b=none->Γ' b=none)->Den Γ' ρ (.sl false z xs) v'->(∀ b,Γ' b≠none->Γ b≠none\/Owned ρ s.mem b\/w.heap.size<=b)->wpListIn (fnc rd) 0 P ops Q (ops.toList.drop i) a w:=fun Γ' hle hpub hnone hd' hnew=>by
  refine hx Γ' ρ w a Q hn ⟨⟨hpub,fun q B hB=>?_,hinj⟩,by rw [hle.2]; exact hok.marks,⟨hok.frame.size,fun d' s' hs'=>?_⟩⟩ fun Γ₂ ρ₂ s₂ w₂ a₂ g1 g2 g3=>hQ Γ₂ ρ₂ s₂ w₂ a₂ g1 (Nxt.trans (s₁:=⟨s.fr,(c,Blk.cells (l.map (shr r z xs)) F) :: del (del s.mem r) c,s.nx⟩) ⟨hstp,hle,Env.same_refl _ _,hn,hnew⟩ g2) g3
  ·rcases hold q B hB with ⟨e,e2⟩ | ⟨g0,g1,g2⟩
   ·subst e; subst e2
    obtain ⟨k1,k2⟩:=shrL hle hv' hd' cb c3
    exact ⟨⟨bc,ac,c1,c2,k1,c4,hnone q _ bc hc hne c1 c5⟩,cn,k2⟩
   ·obtain ⟨g3,g4,g5⟩:=hok.inv.priv q B g2
    exact ⟨g3.move hle (Env.same_refl s.nx ρ) g4 g5 (fun b hb=>⟨rfl,fun h=>hnone q B b g2 g1 hb h⟩),g4,g5⟩
  ·obtain ⟨h1,h2⟩:=hok.frame.slot d' s' hs'
   exact ⟨Den.ext hle _ _ (Env.same_refl s.nx ρ) h2 h1,h2⟩
 rcases hcase with ⟨hv,rfl,_⟩ | ⟨b,arr,cap,hb,hv,hheap,hcap,hsz,hE,_,hnone⟩
 ·exact fin Γ (Gh.le_refl _) hok.inv.pub (fun _ _ _ _ _ _ h=>h) (by rw [hv]; simp [Den]) (fun b hb=>.inl hb)
 ·have hle2:Gh.le Γ ⟨fun c=>if c=b then some arr.toList else Γ c,Γ.lo⟩:=⟨fun c cs hc=>by
   by_cases e:c=b
   ·subst e; rw [hnone] at hc; cases hc
   ·simp [e,hc],rfl⟩
  refine fin ⟨fun c=>if c=b then some arr.toList else Γ c,Γ.lo⟩ hle2 (fun c cs hc=>?_) (fun q B b' h1 h2 h3 h4=>?_) ?_ (fun c hc=>?_)
  ·by_cases e:c=b
   ·subst e
    simp only [if_true,Option.some.injEq] at hc
    subst hc
    exact ⟨E,(0,0),by simpa using hheap⟩
   ·simp only [e,if_false] at hc
    exact hok.inv.pub c cs hc
  ·have e:b'≠b:=fun e=>by
    subst e
    exact h2 (hok.inv.inj q r b' _ _ h1 hr h3 hb)
   simp [e,h4]
  ·rw [hv]
   simp only [Den]
   refine .inr ⟨b,0,cap,arr.toList,rfl,hcap,by simp,by simp,by simp [hsz],?_⟩
   simpa using DenE.ext hle2 _ _ _ hE
  ·by_cases e:c=b
   ·subst e; exact .inr (.inl ⟨r,_,hr,hb⟩)
   ·simp only [e,if_false] at hc
    exact .inl hc
end
end Go.Proofs.YtmmfpkkamgapkaaGreat.X
