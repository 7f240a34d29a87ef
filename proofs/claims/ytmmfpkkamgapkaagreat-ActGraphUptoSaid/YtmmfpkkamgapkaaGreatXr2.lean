/- A row of one's own that is shared,between two operations. -/
import Derived.Test.YtmmfpkkamgapkaaGreatXr1
import Derived.Test.YtmmfpkkamgapkaaGreatXl
namespace Go.Proofs.YtmmfpkkamgapkaaGreat.X
open Go Go.RowKit
section
variable {rd:Option Nat} {P:Program} {N n0:Nat} {ops:Array Oper}
theorem xoi_share {i:Nat}{K:St->Prop}{s:St}(d r:Nat){z E:Nat}{xs:List SV}(hd:fnd s.fr d=some (.own r))(hr:fnd s.mem r=some (.row z E xs))(hx:XOi rd P N n0 ops i K ⟨(d,.sl false z xs) :: s.fr,del s.mem r,s.nx⟩):XOi rd P N n0 ops i K s:=by
 intro Γ ρ w a Q hn hok hQ
 obtain ⟨hden,hbd⟩:=hok.frame.slot d _ hd
 simp only [Den] at hden
 obtain ⟨v',hv',hcase⟩:=(hok.inv.priv r _ hr).1
 rw [hden.1] at hv'
 cases hv'
 have hold:∀ q B,fnd (del s.mem r) q=some B->q≠r/\fnd s.mem q=some B:=fun q B hB=>by
  rw [fnd_del] at hB
  split at hB
  ·cases hB
  ·rename_i e; exact ⟨fun h=>e h,hB⟩
 have hinj:∀ q q' b B B',fnd (del s.mem r) q=some B->fnd (del s.mem r) q'=some B'->ρ.blk q=some b->ρ.blk q'=some b->q=q':=fun q q' b B B' g1 g2=>hok.inv.inj q q' b B B' (hold q B g1).2 (hold q' B' g2).2
 have hstp:Stp ρ s.mem w ρ (del s.mem r) w:=⟨rfl,rfl,rfl,Nat.le_refl _,fun _ _ _=>rfl,fun b ⟨q,B,g1,g2⟩=>.inl ⟨q,B,(hold q B g1).2,g2⟩⟩
 have fin:∀ Γ':Gh,Γ.le Γ'->Inv Γ' ρ s.nx (del s.mem r) w->Den Γ' ρ (.sl false z xs) (a.tmps.getD d undef)->(∀ b,Γ' b≠none->Γ b≠none\/Owned ρ s.mem b\/w.heap.size<=b)->wpListIn (fnc rd) 0 P ops Q (ops.toList.drop i) a w:=fun Γ' hle hinv hd' hnew=>by
  refine hx Γ' ρ w a Q hn ⟨hinv,by rw [hle.2]; exact hok.marks,⟨hok.frame.size,fun d' s' hs'=>?_⟩⟩ fun Γ₂ ρ₂ s₂ w₂ a₂ g1 g2 g3=>hQ Γ₂ ρ₂ s₂ w₂ a₂ g1 (Nxt.trans (s₁:=⟨(d,.sl false z xs) :: s.fr,del s.mem r,s.nx⟩) ⟨hstp,hle,Env.same_refl _ _,hn,hnew⟩ g2) g3
  rw [fnd_cons] at hs'
  split at hs'
  ·rename_i e; subst e; cases hs'; exact ⟨hd',rfl⟩
  ·obtain ⟨h1,h2⟩:=hok.frame.slot d' s' hs'
   exact ⟨Den.ext hle _ _ (Env.same_refl s.nx ρ) h2 h1,h2⟩
 rcases hcase with ⟨hv,rfl,_⟩ | ⟨b,arr,cap,hb,hv,hheap,hcap,hsz,hE,_,hnone⟩
 ·refine fin Γ (Gh.le_refl _) ⟨hok.inv.pub,fun q B hB=>?_,hinj⟩ (by rw [hv]; simp [Den]) (fun b hb=>.inl hb)
  exact hok.inv.priv q B (hold q B hB).2
 ·have hle2:Gh.le Γ ⟨fun c=>if c=b then some arr.toList else Γ c,Γ.lo⟩:=⟨fun c cs hc=>by
   by_cases e:c=b
   ·subst e; rw [hnone] at hc; cases hc
   ·simp [e,hc],rfl⟩
  refine fin ⟨fun c=>if c=b then some arr.toList else Γ c,Γ.lo⟩ hle2 ⟨fun c cs hc=>?_,fun q B hB=>?_,hinj⟩ ?_ (fun c hc=>?_)
  ·by_cases e:c=b
   ·subst e
    simp only [if_true,Option.some.injEq] at hc
    subst hc
    exact ⟨E,(0,0),by simpa using hheap⟩
   ·simp only [e,if_false] at hc
    exact hok.inv.pub c cs hc
  ·obtain ⟨g1,g2⟩:=hold q B hB
   obtain ⟨g3,g4,g5⟩:=hok.inv.priv q B g2
   refine ⟨g3.move hle2 (Env.same_refl s.nx ρ) g4 g5 (fun c hc=>⟨rfl,fun hn=>?_⟩),g4,g5⟩
   have hne:c≠b:=fun e=>by
    subst e
    exact g1 (hok.inv.inj q r c B _ g2 hr hc hb)
   simp [hne,hn]
  ·rw [hv]
   simp only [Den]
   refine .inr ⟨b,0,cap,arr.toList,rfl,hcap,by simp,by simp,by simp [hsz],?_⟩
   simpa using DenE.ext hle2 _ _ _ hE
  ·by_cases e:c=b
   ·subst e; exact .inr (.inl ⟨r,_,hr,hb⟩)
   ·simp only [e,if_false] at hc
    exact .inl hc
end
end Go.Proofs.YtmmfpkkamgapkaaGreat.X
