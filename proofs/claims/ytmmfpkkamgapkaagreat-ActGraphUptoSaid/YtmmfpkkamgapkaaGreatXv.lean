/- Drawn regions whose writers have no order among themselves: new blocks under names that were kept free. (Under way.) -/
import Derived.Test.YtmmfpkkamgapkaaGreatXm3
namespace Go.Proofs.YtmmfpkkamgapkaaGreat.X
open Go Go.RowKit
def Ext (ρ ρ':Env):Prop:=∀ r,(ρ.blk r=none/\ρ.val r=none)\/(ρ'.blk r=ρ.blk r/\ρ'.val r=ρ.val r)
theorem Ext.blk {ρ ρ':Env}(h:Ext ρ ρ'){r b:Nat}(e:ρ.blk r=some b):ρ'.blk r=some b:=by
 rcases h r with ⟨h,_⟩ | ⟨h,_⟩
 ·rw [h] at e; cases e
 ·rw [h]; exact e
theorem Ext.val {ρ ρ':Env}(h:Ext ρ ρ'){r:Nat}{v:Value}(e:ρ.val r=some v):ρ'.val r=some v:=by
 rcases h r with ⟨_,h⟩ | ⟨_,h⟩
 ·rw [h] at e; cases e
 ·rw [h]; exact e
mutual
theorem Den.mono {Γ:Gh} : ∀ {ρ ρ':Env} (s:SV) (v:Value),Ext ρ ρ'->Den Γ ρ s v->Den Γ ρ' s v
 | _,_,.int _ _,_,_,h=>by simpa only [Den] using h
 | _,_,.bool _,_,_,h=>by simpa only [Den] using h
 | ρ,ρ',.loc r o,v,hs,h=>by
  simp only [Den] at *
  obtain ⟨b,h1,h2⟩:=h
  exact ⟨b,hs.blk h1,h2⟩
 | ρ,ρ',.agg l,v,hs,h=>by
  simp only [Den] at *
  obtain ⟨vs,e,h⟩:=h
  exact ⟨vs,e,DenL.mono l _ hs h⟩
 | ρ,ρ',.tup l,v,hs,h=>by
  simp only [Den] at *
  obtain ⟨vs,e,h⟩:=h
  exact ⟨vs,e,DenL.mono l _ hs h⟩
 | ρ,ρ',.fn f a c,v,hs,h=>by
  simp only [Den] at *
  obtain ⟨va,vc,e,h1,h2⟩:=h
  exact ⟨va,vc,e,DenL.mono a _ hs h1,DenL.mono c _ hs h2⟩
 | _,_,.nils,_,_,h=>by simpa only [Den] using h
 | _,_,.sl x z xs,v,_,h=>by simpa only [Den] using h
 | ρ,ρ',.own r,v,hs,h=>by
  simp only [Den] at *
  exact ⟨hs.val h.1,h.2⟩
 | ρ,ρ',.relt r z i o,v,hs,h=>by
  simp only [Den] at *
  obtain ⟨b,h1,h2⟩:=h
  exact ⟨b,hs.blk h1,h2⟩
 | ρ,ρ',.osub r z lo k,v,hs,h=>by
  simp only [Den] at *
  obtain ⟨b,cap,off,h1,h2⟩:=h
  exact ⟨b,cap,off,hs.blk h1,h2⟩
 | _,_,.elt s,v,_,h=>by simpa only [Den] using h
 | _,_,.raw _,_,_,h=>by simpa only [Den] using h
 | _,_,.any,_,_,h=>by simpa only [Den] using h
 | _,_,.junk,_,_,_=>by simp only [Den]
theorem DenL.mono {Γ:Gh} : ∀ {ρ ρ':Env} (l:List SV) (vs:List Value),Ext ρ ρ'->DenL Γ ρ l vs->DenL Γ ρ' l vs
 | _,_,[],_,_,h=>by simpa only [DenL] using h
 | ρ,ρ',s :: l,vs,hs,h=>by
  simp only [DenL] at *
  obtain ⟨v,r,e,h1,h2⟩:=h
  exact ⟨v,r,e,Den.mono s v hs h1,DenL.mono l r hs h2⟩
end
theorem EntsOk.mono {Γ:Gh}{k:IntKind}{ρ ρ':Env}(hs:Ext ρ ρ'):∀ {es:List (Int×SV)} {l:List MapEntry},EntsOk Γ ρ k es l->EntsOk Γ ρ' k es l
 | [],_,h=>h
 | (m,s) :: es,l,h=>by
  obtain ⟨e,r,h1,h2,h3,h4⟩:=h
  exact ⟨e,r,h1,h2,Den.mono s _ hs h3,EntsOk.mono hs h4⟩
theorem Ext.known {ρ ρ':Env}(h:Ext ρ ρ'){r:Nat}(hk:¬ (ρ.blk r=none/\ρ.val r=none)):ρ'.blk r=ρ.blk r/\ρ'.val r=ρ.val r:=(h r).resolve_left hk
theorem BlkOk.known {Γ:Gh}{ρ:Env}{w:World}{r:Nat}{B:Blk}(h:BlkOk Γ ρ w r B):¬ (ρ.blk r=none/\ρ.val r=none):=by
 rintro ⟨h1,h2⟩
 cases B with
 | cells l E=>obtain ⟨b,arr,h3,_⟩:=h; rw [h1] at h3; cases h3
 | row z E xs=>obtain ⟨v,h3,_⟩:=h; rw [h2] at h3; cases h3
 | lp nb q=>obtain ⟨h3,_⟩:=h; rw [h1] at h3; cases h3
 | mp p k es=>obtain ⟨b,arr,clock,h3,_⟩:=h; rw [h1] at h3; cases h3
theorem BlkOk.moveX {Γ:Gh}{ρ ρ':Env}{w w':World}{r:Nat}{B:Blk}(hs:Ext ρ ρ')(hw:∀ b,ρ.blk r=some b->w'.heap[b]? = w.heap[b]?)(h:BlkOk Γ ρ w r B):BlkOk Γ ρ' w' r B:=by
 obtain ⟨e1,e2⟩:=hs.known h.known
 cases B with
 | cells l E =>
  obtain ⟨b,arr,h1,h2,h3,h4,h5⟩:=h
  exact ⟨b,arr,by rw [e1,h1],by rw [hw b h1,h2],DenL.mono l _ hs h3,h4,h5⟩
 | row z E xs =>
  obtain ⟨v,hv,h⟩:=h
  refine ⟨v,by rw [e2,hv],?_⟩
  rcases h with ⟨h1,h2,h3⟩ | ⟨b,arr,cap,h1,h2,h3,h4,h5,h6,h7,h8⟩
  ·exact .inl ⟨h1,h2,by rw [e1,h3]⟩
  ·exact .inr ⟨b,arr,cap,by rw [e1,h1],h2,by rw [hw b h1,h3],h4,h5,h6,h7,h8⟩
 | lp nb q =>
  obtain ⟨h1,h2,tmps,dfr,h3,h4,h5⟩:=h
  exact ⟨by rw [e1,h1],h2,tmps,dfr,by rw [hw _ h1,h3],h4,fun d s hd=>⟨Den.mono s _ hs (h5 d s hd).1,(h5 d s hd).2⟩⟩
 | mp p k es =>
  obtain ⟨b,arr,clock,h1,h2,h3,h4,h5⟩:=h
  refine ⟨b,arr,clock,by rw [e1,h1],by rw [e2,h2],by rw [hw b h1,h3],?_,h5⟩
  cases p with
  | true=>exact h4
  | false=>exact EntsOk.mono hs h4
theorem Ext.add {ρ:Env}{r0:Nat}{b:Option Nat}{v:Option Value}(h:ρ.blk r0=none/\ρ.val r0=none):Ext ρ (ρ.add r0 b v):=fun r=>by
 by_cases e:r=r0
 ·subst e; exact .inl h
 ·exact .inr ⟨by simp [Env.add,e],by simp [Env.add,e]⟩
theorem Inv.allocAt {Γ:Gh}{ρ:Env}{nx:Nat}{mem:Mem}{w:World}(h:Inv Γ ρ nx mem w){r0:Nat}(hr0:r0<nx)(hund:ρ.blk r0=none/\ρ.val r0=none)(o:Obj)(v:Option Value)(B:Blk)(hB:BlkOk Γ (ρ.add r0 (some w.heap.size) v) (w.alloc o) r0 B)(hbd:B.bd nx=true) :
  Inv Γ (ρ.add r0 (some w.heap.size) v) nx ((r0,B) :: mem) (w.alloc o) where
 pub b cs hb:=by
  obtain ⟨E,fz,e⟩:=h.pub b cs hb
  exact ⟨E,fz,by rw [heap_old w o b (h.lt hb),e]⟩
 priv r C hC:=by
  rw [fnd_cons] at hC
  split at hC
  ·rename_i e; subst e; cases hC
   exact ⟨hB,hr0,hbd⟩
  ·obtain ⟨h1,h2,h3⟩:=h.priv r C hC
   exact ⟨h1.moveX (Ext.add hund) (fun b hb=>heap_old w o b (h1.lt hb)),h2,h3⟩
 inj r r' b C C' hC hC' hb hb':=by
  rw [fnd_cons] at hC hC'
  split at hC <;> split at hC'
  ·omega
  ·rename_i e e'
   subst e
   obtain ⟨h1,_,_⟩:=h.priv r' C' hC'
   rw [((Ext.add hund).known h1.known).1] at hb'
   have:=h1.lt hb'
   rw [Env.add_blk] at hb; cases hb; omega
  ·rename_i e e'
   subst e'
   obtain ⟨h1,_,_⟩:=h.priv r C hC
   rw [((Ext.add hund).known h1.known).1] at hb
   have:=h1.lt hb
   rw [Env.add_blk] at hb'; cases hb'; omega
  ·obtain ⟨h1,_,_⟩:=h.priv r C hC
   obtain ⟨h1',_,_⟩:=h.priv r' C' hC'
   rw [((Ext.add hund).known h1.known).1] at hb
   rw [((Ext.add hund).known h1'.known).1] at hb'
   exact h.inj r r' b C C' hC hC' hb hb'
theorem Stp.allocAt {Γ:Gh}{ρ:Env}{nx:Nat}{mem:Mem}{w:World}(h:Inv Γ ρ nx mem w){r0:Nat}(hund:ρ.blk r0=none/\ρ.val r0=none)(o:Obj)(v:Option Value)(B:Blk) :
  Stp ρ mem w (ρ.add r0 (some w.heap.size) v) ((r0,B) :: mem) (w.alloc o) where
 os:=rfl
 tape:=rfl
 output:=rfl
 size:=by simp
 keep b hb _:=heap_old w o b hb
 own b:=by
  rintro ⟨r,C,hC,hb⟩
  rw [fnd_cons] at hC
  split at hC
  ·rename_i e; subst e
   rw [Env.add_blk] at hb; cases hb
   exact .inr (Nat.le_refl _)
  ·obtain ⟨h1,_,_⟩:=h.priv r C hC
   rw [((Ext.add hund).known h1.known).1] at hb
   exact .inl ⟨r,C,hC,hb⟩
section
variable {rd:Option Nat} {P:Program} {T:Tab} {N:Nat} {ops:Array Oper} {fr:Fr} {mem:Mem} {nx:Nat}
def UOk (P:Program)(N m:Nat)(fr:Fr)(mem:Mem)(nx:Nat)(un:List Nat)(o:Oper)(sv:SV)(mem':Mem)(un':List Nat):Prop :=
 ∀ Γ ρ w a,Inv Γ ρ nx mem w->FrDen Γ ρ nx N fr a->(∀ r∈un,ρ.blk r=none/\ρ.val r=none)->∃ v r Γ' ρ' w',(execOp a.eval o).run P w = .ok r w'/\(r = .value v\/r = .skip/\v=undef) /\
  Den Γ' ρ' sv v/\sv.bd nx=true/\Inv Γ' ρ' nx mem' w'/\(Env.same nx ρ ρ'\/Ext ρ ρ')/\Env.same m ρ ρ'/\Stp ρ mem w ρ' mem' w'/\Γ.le Γ'/\(∀ b,Γ' b≠none->Γ b≠none\/Owned ρ mem b\/w.heap.size<=b)/\∀ r∈un',ρ'.blk r=none/\ρ'.val r=none
theorem UOk.of {m:Nat}{un un':List Nat}{o:Oper}{sv:SV}{mem':Mem}(h:OpOk P N fr mem nx o sv mem' nx)(hm:m<=nx)(hun:∀ r∈un',r∈un)(hlt:∀ r∈un,r<nx):UOk P N m fr mem nx un o sv mem' un':=by
 intro Γ ρ w a hi hf hu
 obtain ⟨v,r,Γ',ρ',w',h1,h2,h3,h4,h5,h6,h7,h8,h9,h10⟩:=h Γ ρ w a hi hf
 refine ⟨v,r,Γ',ρ',w',h1,h2,h3,h4,h5,.inl h6,Env.same_mono hm h6,h8,h9,h10,fun r hr=>?_⟩
 have:=hlt r (hun r hr)
 rw [(h6 r this).1,(h6 r this).2]
 exact hu r (hun r hr)
theorem UOk.new {m r0:Nat}{un un':List Nat}{o:Oper}{l:List SV}{E:Nat}(hr0:r0∈un)(hlt:r0<nx)(hm:m<=r0)(hun:∀ r∈un',r∈un/\r≠r0)
  (hrun:∀ Γ ρ w a,Inv Γ ρ nx mem w->FrDen Γ ρ nx N fr a->∃ cs:Array Value,(execOp a.eval o).run P w = .ok (.value (.pointer (some ⟨w.heap.size,0,none⟩))) (w.alloc (.cells cs E)) /\
  DenL Γ ρ l cs.toList/\(∀ c∈cs.toList,c.oneCell'=true)/\bdL nx l=true):UOk P N m fr mem nx un o (.loc r0 0) ((r0,.cells l E) :: mem) un':=by
 intro Γ ρ w a hi hf hu
 obtain ⟨cs,h1,h2,h3,h4⟩:=hrun Γ ρ w a hi hf
 have hund:=hu r0 hr0
 refine ⟨_,_,Γ,ρ.add r0 (some w.heap.size) none,_,h1,.inl rfl,?_,by simpa [SV.bd] using hlt,?_,.inr (Ext.add hund),fun r hr=>?_,Stp.allocAt hi hund _ _ _,Gh.le_refl _,fun _ hb=>.inl hb,fun r hr=>?_⟩
 ·simp only [Den]; exact ⟨_,Env.add_blk _ _ _ _,rfl⟩
 ·refine hi.allocAt hlt hund _ none (.cells l E) ⟨w.heap.size,cs,Env.add_blk _ _ _ _,by rw [heap_alloc_new],DenL.mono l _ (Ext.add hund) h2,h3,?_⟩ h4
  cases hq:Γ w.heap.size with
  | none=>rfl
  | some cs'=>exact absurd (hi.lt hq) (Nat.lt_irrefl _)
 ·have:r≠r0:=om
  simp [Env.add,this]
 ·obtain ⟨h5,h6⟩:=hun r hr
  simp only [Env.add,h6,if_false]
  exact hu r h5
theorem UOk.row {m r0:Nat}{un un':List Nat}{o:Oper}{z E:Nat}{xs:List SV}{mem1:Mem}(hr0:r0∈un)(hlt:r0<nx)(hm:m<=r0)(hun:∀ r∈un',r∈un/\r≠r0)(hsub:∀ r C,fnd mem1 r=some C->fnd mem r=some C)
  (h:OpOk P N fr mem nx o (.own nx) ((nx,.row z E xs) :: mem1) (nx + 1)):UOk P N m fr mem nx un o (.own r0) ((r0,.row z E xs) :: mem1) un':=by
 intro Γ ρ w a hi hf hu
 obtain ⟨v,r,Γ',ρ',w',h1,h2,h3,h4,h5,h6,h7,h8,h9,h10⟩:=h Γ ρ w a hi hf
 have hund:=hu r0 hr0
 have hx:Ext ρ (ρ.add r0 (ρ'.blk nx) (ρ'.val nx)):=Ext.add hund
 have hA:(ρ.add r0 (ρ'.blk nx) (ρ'.val nx)).blk r0=ρ'.blk nx:=by simp [Env.add]
 have hB:(ρ.add r0 (ρ'.blk nx) (ρ'.val nx)).val r0=ρ'.val nx:=by simp [Env.add]
 have hne:∀ {r C},fnd mem1 r=some C->r≠r0:=fun {r C} hC e=>by
  subst e
  exact (hi.priv r C (hsub r C hC)).1.known hund
 have hC':∀ {r C},fnd mem1 r=some C->fnd ((nx,Blk.row z E xs) :: mem1) r=some C:=fun {r C} hC=>by
  rw [fnd_cons,if_neg (by have:=(hi.priv r C (hsub r C hC)).2.1; omega)]; exact hC
 have hold:∀ {r C},fnd mem1 r=some C->(ρ.add r0 (ρ'.blk nx) (ρ'.val nx)).blk r=ρ'.blk r:=fun {r C} hC=>by
  have h1:=hne hC
  rw [(h6 r (hi.priv r C (hsub r C hC)).2.1).1]
  simp [Env.add,h1]
 have hnew:fnd ((nx,Blk.row z E xs) :: mem1) nx=some (.row z E xs):=by rw [fnd_cons,if_pos rfl]
 refine ⟨v,r,Γ',ρ.add r0 (ρ'.blk nx) (ρ'.val nx),w',h1,h2,?_,by simpa [SV.bd] using hlt,⟨h5.pub,?_,?_⟩,.inr hx,fun r hr=>?_,⟨h8.os,h8.tape,h8.output,h8.size,h8.keep,?_⟩,h9,h10,fun r hr=>?_⟩
 ·simp only [Den] at h3 ⊢
  rw [hB]; exact h3
 ·intro r C hC
  rw [fnd_cons] at hC
  split at hC
  ·rename_i e; subst e; cases hC
   obtain ⟨⟨v2,g1,g2⟩,_,_⟩:=h5.priv nx _ hnew
   refine ⟨⟨v2,by rw [hB]; exact g1,?_⟩,hlt,rfl⟩
   rw [hA]; exact g2
  ·obtain ⟨g1,g2,g3⟩:=hi.priv r C (hsub r C hC)
   obtain ⟨g4,_,_⟩:=h5.priv r C (hC' hC)
   have hback:Env.same nx ρ' ρ:=fun x hx=>⟨(h6 x hx).1.symm,(h6 x hx).2.symm⟩
   have g5:BlkOk Γ' ρ w' r C:=g4.move (Gh.le_refl _) hback g2 g3 (fun b _=>⟨rfl,id⟩)
   exact ⟨g5.moveX hx (fun _ _=>rfl),g2,g3⟩
 ·intro r r' b C C' hC hC2 hb hb'
  rw [fnd_cons] at hC hC2
  split at hC <;> split at hC2
  ·omega
  ·rename_i e e'
   subst e
   rw [hA] at hb
   rw [hold hC2] at hb'
   have:=h5.inj nx r' b _ _ hnew (hC' hC2) hb hb'
   have:=(hi.priv r' C' (hsub r' C' hC2)).2.1
   omega
  ·rename_i e e'
   subst e'
   rw [hA] at hb'
   rw [hold hC] at hb
   have:=h5.inj r nx b _ _ (hC' hC) hnew hb hb'
   have:=(hi.priv r C (hsub r C hC)).2.1
   omega
  ·rw [hold hC] at hb
   rw [hold hC2] at hb'
   exact h5.inj r r' b C C' (hC' hC) (hC' hC2) hb hb'
 ·have:r≠r0:=om
  simp [Env.add,this]
 ·rintro b ⟨r,C,hC,hb⟩
  rw [fnd_cons] at hC
  split at hC
  ·rename_i e; subst e
   rw [hA] at hb
   exact h8.own b ⟨nx,_,hnew,hb⟩
  ·rw [hold hC] at hb
   exact h8.own b ⟨r,C,hC' hC,hb⟩
 ·obtain ⟨h5,h6⟩:=hun r hr
  simp only [Env.add,h6,if_false]
  exact hu r h5
theorem QInv.stepX {fr:Fr}{ss:List SV}{Γ:Gh}{ρ ρ':Env}{w w':World}{a:Act}{listed:Array Bool}(h:QInv N ops mem nx fr ss Γ ρ w a listed)(hu:uniq ops.toList=true)(hfit:∀ (i:Nat) (o:Oper) (d:Nat),ops[i]? = some o->o.dst=some d->d<N)
  {i:Nat} {o:Oper} {s:SV} {v:Value} (ho:ops[i]? = some o) (hs:ss[i]? = some s) (hready:∀ e∈o.after,Region.binds .any e=true->listed.getD e.on false=true)
  {Γ':Gh} (hΓ:Γ.le Γ') {mem':Mem} (hst:Stp ρ mem w ρ' mem' w') (hi':Inv Γ' ρ' nx mem' w') (hx:Ext ρ ρ') (hv:Den Γ' ρ' s v) (hb:s.bd nx=true):QInv N ops mem' nx fr ss Γ' ρ' w' (a.put o.dst v) (listed.setIfInBounds i true):=by
 have hil:i<listed.size:=by rw [h.lsize]; exact (Array.getElem?_eq_some_iff.1 ho).1
 have hput:∀ t,o.dst≠some t->(a.put o.dst v).tmps.getD t undef=a.tmps.getD t undef:=fun t ht=>by
  cases hd:o.dst with
  | none=>rfl
  | some d =>
   rw [hd] at ht
   have:d≠t:=fun e=>ht (by rw [e])
   simp [Act.put,this]
 have hself:∀ d,o.dst=some d->(a.put o.dst v).tmps.getD d undef=v:=fun d hd=>by
  have:d<a.tmps.size:=by rw [h.size]; exact hfit i o d ho hd
  simp [Act.put,hd,this]
 refine ⟨hi',?_,?_,fun t x hx' hno=>?_,fun j oj x d hj hsj hl hd=>?_,fun j oj hj hl e he hbe=>?_,by simp [h.lsize]⟩
 ·rw [put_defers]; exact h.defers.step h.inv hst hΓ
 ·cases hd:o.dst <;> simpa [Act.put] using h.size
 ·have hne:o.dst≠some t:=fun e=>by
   have:=hno i o ho e
   rw [getD_set listed i i hil] at this
   simp at this
  rw [hput t hne]
  obtain ⟨h1,h2⟩:=h.old t x hx' (fun j oj hj hd=>by
   have:=hno j oj hj hd
   rw [getD_set listed i j hil] at this
   split at this
   ·cases this
   ·exact this)
  exact ⟨Den.mono x _ hx (Den.ext hΓ x _ (Env.same_refl nx ρ) h2 h1),h2⟩
 ·rw [getD_set listed i j hil] at hl
  split at hl
  ·rename_i e
   subst e
   rw [ho] at hj; cases hj
   rw [hs] at hsj; cases hsj
   rw [hself d hd]
   exact ⟨hv,hb⟩
  ·rename_i hne
   have hnd:o.dst≠some d:=fun e=>hne (uniq_spec hu j i oj o d (by simpa using hj) (by simpa using ho) hd e)
   rw [hput d hnd]
   obtain ⟨h1,h2⟩:=h.new j oj x d hj hsj hl hd
   exact ⟨Den.mono x _ hx (Den.ext hΓ x _ (Env.same_refl nx ρ) h2 h1),h2⟩
 ·rw [getD_set listed i e.on hil]
  rw [getD_set listed i j hil] at hl
  split at hl
  ·rename_i e'
   subst e'
   rw [ho] at hj; cases hj
   split
   ·rfl
   ·exact hready e he hbe
  ·split
   ·rfl
   ·exact h.down j oj hj hl e he hbe
structure Stg where
 mem:Mem
 dn:List Nat
 un:List Nat
def stAt (sg:List Stg)(k:Nat):Stg:=match sg[k]? with | some x=>x | none=>⟨[],[],[]⟩
def mayU (bf:List (Nat×List Nat))(ws dn:List Nat)(i:Nat):Bool:=!hasN dn i && ws.all (fun w=>(!hasN (bfAt bf i) w || hasN dn w) && (!hasN (bfAt bf w) i || !hasN dn w))
def UStep (P:Program)(N m:Nat)(ops:Array Oper)(nx:Nat)(sg:List Stg)(ws:List Nat)(bf:List (Nat×List Nat))(fr:Fr)(i:Nat)(o:Oper)(sv:SV):Prop :=
 ∀ k,k<sg.length->mayU bf ws (stAt sg k).dn i=true ->
  match hasN ws i with
  | true=>gd ops (rs fr (o.looksAt ops)) o.guard=some true/\∃ k',k'<sg.length/\(∀ v,v∈(stAt sg k').dn↔v∈(stAt sg k).dn\/v=i)/\UOk P N m (rs fr (o.looksAt ops)) (stAt sg k).mem nx (stAt sg k).un o sv (stAt sg k').mem (stAt sg k').un
  | false=>QStep P N ops (stAt sg k).mem nx fr o sv
def UAll (P:Program)(N m:Nat)(ops:Array Oper)(nx:Nat)(sg:List Stg)(ws:List Nat)(bf:List (Nat×List Nat)):Nat->List Oper->List SV->Fr->Prop
 | _,[],[],_=>True
 | i,o :: l,s :: ss,fr=>UStep P N m ops nx sg ws bf fr i o s/\UAll P N m ops nx sg ws bf (i + 1) l ss (putO fr o.dst s)
 | _,_,_,_=>False
variable {sg:List Stg} {ws:List Nat} {bf:List (Nat×List Nat)} {m n0:Nat}
theorem UAll.len:∀ {i:Nat} {l:List Oper} {ss:List SV} {fr:Fr},UAll P N m ops nx sg ws bf i l ss fr->ss.length=l.length
 | _,[],[],_,_=>rfl
 | _,[],_ :: _,_,h=>h.elim
 | _,_ :: _,[],_,h=>h.elim
 | i,o :: l,s :: ss,fr,h=>by simp [UAll.len h.2]
theorem UAll.at:∀ {i0:Nat} {l:List Oper} {ss:List SV} {fr:Fr},UAll P N m ops nx sg ws bf i0 l ss fr->∀ i o s,l[i]? = some o->ss[i]? = some s->UStep P N m ops nx sg ws bf (lexFr fr (l.take i) (ss.take i)) (i0 + i) o s
 | _,[],_,_,_,i,o,s,h,_=>by simp at h
 | _,_ :: _,[],_,h,_,_,_,_,_=>h.elim
 | i0,o' :: l,s' :: ss,fr,h,0,o,s,h1,h2=>by
  simp at h1 h2; subst h1 h2
  simpa [lexFr] using h.1
 | i0,o' :: l,s' :: ss,fr,h,i + 1,o,s,h1,h2=>by
  simp at h1 h2
  have:=UAll.at h.2 i o s h1 h2
  rw [show i0 + (i + 1)=i0 + 1 + i by omega]
  simpa [lexFr] using this
theorem mayU_of {dn:List Nat}{i:Nat}(h0:i∉dn)(h:∀ w∈ws,(w∈bfAt bf i->w∈dn)/\(i∈bfAt bf w->w∉dn)):mayU bf ws dn i=true:=by
 have hh:∀ {l:List Nat} {n:Nat},n∈l->hasN l n=true:=by
  intro l n hn
  induction l with
  | nil=>cases hn
  | cons a l ih =>
   simp only [hasN]
   split
   ·rfl
   ·rename_i hb
    rcases List.mem_cons.1 hn with rfl | hn
    ·rw [Nat.beq_refl] at hb; cases hb
    ·exact ih hn
 have hn:∀ {l:List Nat} {n:Nat},n∉l->hasN l n=false:=fun {l n} hn=>by
  cases hq:hasN l n with
  | false=>rfl
  | true=>exact absurd (hasN_mem hq) hn
 unfold mayU
 rw [hn h0]
 simp only [Bool.not_false,Bool.true_and,List.all_eq_true,Bool.and_eq_true,Bool.or_eq_true,Bool.not_eq_true']
 intro w hw
 obtain ⟨g1,g2⟩:=h w hw
 constructor
 ·by_cases hq:w∈bfAt bf i
  ·exact .inr (hh (g1 hq))
  ·exact .inl (hn hq)
 ·by_cases hq:i∈bfAt bf w
  ·exact .inr (hn (g2 hq))
  ·exact .inl (hn hq)
def finOk (sg:List Stg)(ws:List Nat)(e:Nat):Bool:=(List.range sg.length).all fun k=>Nat.beq k e || !(ws.all fun w=>hasN (stAt sg k).dn w)
theorem xw_ucore (hm:P.follows .mixedOrders=true){id:Nat}{K:XE->St->Prop}{fr fr2:Fr}{mem0:Mem}{nx0:Nat}{un0:List Nat}(sg:List Stg)(ws:List Nat)(bf:List (Nat×List Nat))(ss:List SV)(e:Nat)(hd:drawOk N ops=true)(hbf:bfOk ops bf=true)(hwr:ws.all (fun i=>Nat.blt i ops.size)=true)
  (h0:stAt sg 0=⟨mem0,[],un0⟩) (hs0:0<sg.length) (hnx:nx0<=nx) (hun0:∀ r∈un0,nx0<=r) (hunlt:∀ k,∀ r∈(stAt sg k).un,r<nx) (hfin:finOk sg ws e=true)
  (hq:UAll P N nx0 ops nx sg ws bf 0 ops.toList ss fr)
  (hsub:∀ t s,fnd fr2 t=some s->fnd (lexFr fr ops.toList ss) t=some s) (hK:K .normal ⟨fr2,(stAt sg e).mem,nx⟩):XW rd P N n0 (.region id ops true) K ⟨fr,mem0,nx0⟩:=by
 simp only [drawOk,Bool.and_eq_true] at hd
 obtain ⟨⟨⟨⟨hu,hp⟩,hdn⟩,hown⟩,hfit⟩:=hd
 have hlen:ss.length=ops.size:=by simpa using hq.len
 have hfitS:∀ (i:Nat) (o:Oper) (d:Nat),ops[i]? = some o->o.dst=some d->d<N:=fun i o d h1 h2=>by
  have:=List.all_eq_true.1 hfit o (List.mem_of_getElem? (by simpa using h1))
  rw [h2] at this; simpa using this
 have hdown:∀ (j:Nat) (o:Oper),ops[j]? = some o->∀ e∈o.after,Region.binds .any e=true->e.on<j:=fun j o h1 e he hb=>by
  have hj:j<ops.size:=(Array.getElem?_eq_some_iff.1 h1).1
  have:=List.all_eq_true.1 hdn j (by simpa using hj)
  rw [h1] at this
  rw [Array.all_eq_true'] at this
  have:=this e he
  simpa [hb] using this
 have hpair:∀ (i j:Nat) (oi oj:Oper),i<j->ops[i]? = some oi->ops[j]? = some oj ->
   (∀ d,oi.dst=some d->d∈oj.looksAt ops->∃ e∈oj.after,e.on=i/\Region.binds .any e=true)/\(∀ d,oj.dst=some d->d∈oi.looksAt ops->∃ e∈oj.after,e.on=i/\Region.binds .any e=true):=fun i j oi oj hij h1 h2=>by
  have hj:j<ops.size:=(Array.getElem?_eq_some_iff.1 h2).1
  have:=List.all_eq_true.1 (List.all_eq_true.1 hp j (by simpa using hj)) i (by simpa using hij)
  rw [h1,h2] at this
  simp only [pairOk,Bool.and_eq_true] at this
  refine ⟨fun d hd hl=>?_,fun d hd hl=>?_⟩
  ·have:=this.1
   rw [hd] at this
   simp only [Bool.or_eq_true,Bool.not_eq_true',List.contains_eq_mem,decide_eq_false_iff_not,hl,not_true_eq_false,false_or,Array.any_eq_true'] at this
   obtain ⟨e,he,hb⟩:=this
   simp at hb
   exact ⟨e,he,hb.1,hb.2⟩
  ·have:=this.2
   rw [hd] at this
   simp only [Bool.or_eq_true,Bool.not_eq_true',List.contains_eq_mem,decide_eq_false_iff_not,hl,not_true_eq_false,false_or,Array.any_eq_true'] at this
   obtain ⟨e,he,hb⟩:=this
   simp at hb
   exact ⟨e,he,hb.1,hb.2⟩
 intro Γ0 ρ0 w0 a0 hn hok
 refine wpIn_region_any hm ?_
 have hwsz:∀ v∈ws,v<ops.size:=fun v hv=>by
  have:=List.all_eq_true.1 hwr v hv
  simpa using this
 have hend:∀ (listed:Array Bool) (k:Nat) (Γ:Gh) (ρ:Env) (w:World) (a:Act),QInv N ops (stAt sg k).mem nx fr ss Γ ρ w a listed->(k<sg.length/\(∀ v∈ws,(listed.getD v true=true↔v∈(stAt sg k).dn))/\∀ v∈(stAt sg k).dn,v∈ws)->Nxt n0 Γ0 ρ0 ⟨fr,mem0,nx0⟩ w0 Γ ρ ⟨fr2,(stAt sg k).mem,nx⟩ w->(∀ j,j<ops.size->listed.getD j true=true)->XPost N n0 K Γ0 ρ0 ⟨fr,mem0,nx0⟩ w0 .normal a w:=by
  intro listed k Γ ρ w a hI hW hN hall
  have hk:k=e:=by
   have:=List.all_eq_true.1 hfin k (by simpa using hW.1)
   simp only [Bool.or_eq_true,Bool.not_eq_true'] at this
   rcases this with h | h
   ·exact Nat.eq_of_beq_eq_true h
   ·exfalso
    have:(ws.all fun w=>hasN (stAt sg k).dn w)=true:=List.all_eq_true.2 fun v hv=>by
     have hv2:=(hW.2.1 v hv).1 (hall v (hwsz v hv))
     cases hq2:hasN (stAt sg k).dn v with
     | true=>rfl
     | false =>
      exfalso
      have key:∀ {l:List Nat} {n:Nat},n∈l->hasN l n=true:=by
       intro l n hn'
       induction l with
       | nil=>cases hn'
       | cons a l ih =>
        simp only [hasN]
        split
        ·rfl
        ·rename_i hb
         rcases List.mem_cons.1 hn' with rfl | hn'
         ·rw [Nat.beq_refl] at hb; cases hb
         ·exact ih hn'
      rw [key hv2] at hq2; cases hq2
    rw [this] at h; cases h
  subst hk
  refine ⟨.normal,Γ,ρ,⟨fr2,(stAt sg k).mem,nx⟩,rfl,⟨hI.inv,hI.defers,hI.size,fun t s ht=>?_⟩,hN,hK⟩
  have ht':=hsub t s ht
  rcases fnd_lex (fr:=fr) hu (by simpa using hlen) t with ⟨j,oj,sj,h1,h2,h3,h4⟩ | ⟨h1,h2⟩
  ·rw [h4] at ht'; cases ht'
   have hj:ops[j]? = some oj:=by simpa using h1
   exact hI.new j oj _ t hj h2 (hall j (Array.getElem?_eq_some_iff.1 hj).1) h3
  ·rw [h2] at ht'
   exact hI.old t s ht' (fun j o hj hdj=>absurd hdj (h1 j o (by simpa using hj)))
 have key:∀ (fuel:Nat) (U:List Nat) (listed:Array Bool) (k:Nat) (Γ:Gh) (ρ:Env) (w:World) (a:Act),U.length<=fuel->(∀ j,j<ops.size->listed.getD j true=false->j∈U)->QInv N ops (stAt sg k).mem nx fr ss Γ ρ w a listed->(k<sg.length/\(∀ v∈ws,(listed.getD v true=true↔v∈(stAt sg k).dn))/\∀ v∈(stAt sg k).dn,v∈ws)->(∀ r∈(stAt sg k).un,ρ.blk r=none/\ρ.val r=none)->Nxt n0 Γ0 ρ0 ⟨fr,mem0,nx0⟩ w0 Γ ρ ⟨fr2,(stAt sg k).mem,nx⟩ w ->
   wpAnyIn (fnc rd) 0 P .any ops (XPost N n0 K Γ0 ρ0 ⟨fr,mem0,nx0⟩ w0) fuel listed a w:=by
  intro fuel
  induction fuel with
  | zero =>
   intro U listed k Γ ρ w a hU hUm hI hW hO hN
   have hall:∀ j,j<ops.size->listed.getD j true=true:=fun j hj=>by
    cases hq:listed.getD j true with
    | true=>rfl
    | false =>
     have:=hUm j hj hq
     rw [List.eq_nil_of_length_eq_zero (Nat.le_zero.1 hU)] at this
     cases this
   refine ⟨?_,hend listed k Γ ρ w a hI hW hN hall⟩
   refine List.eq_nil_iff_forall_not_mem.2 fun i hi=>?_
   obtain ⟨h1,o,h2,_⟩:=mem_ready' hi
   rw [hall i (Array.getElem?_eq_some_iff.1 h2).1] at h1
   cases h1
  | succ fuel ih =>
   intro U listed k Γ ρ w a hU hUm hI hW hO hN
   refine ⟨fun hr=>hend listed k Γ ρ w a hI hW hN ?_,fun i hi=>?_⟩
   ·intro j
    induction j using Nat.strongRecOn with
    | _ j jh =>
     intro hj
     cases hq:listed.getD j true with
     | true=>rfl
     | false =>
      exfalso
      have:j∈Region.ready .any ops listed:=by
       unfold Region.ready
       rw [List.mem_filter]
       refine ⟨by simpa using hj,?_⟩
       simp only [hq,Bool.not_false,Bool.true_and]
       rw [Array.getElem?_eq_getElem hj]
       simp only [Option.map_some,Option.getD_some,Array.all_eq_true']
       intro e he
       cases hb:Region.binds .any e with
       | false=>rfl
       | true =>
        have hlt:=hdown j _ (Array.getElem?_eq_getElem hj) e he hb
        have:=getD_false_of_true (by rw [hI.lsize]; omega) (jh e.on hlt om)
        simpa using this
      rw [hr] at this; cases this
   ·obtain ⟨hun,o,ho,hready⟩:=mem_ready' hi
    have hil:i<ops.size:=(Array.getElem?_eq_some_iff.1 ho).1
    have hsi:∃ s,ss[i]? = some s:=⟨_,List.getElem?_eq_getElem om⟩
    obtain ⟨s,hs⟩:=hsi
    have hstep:=hq.at i o s (by simpa using ho) hs
    rw [Nat.zero_add] at hstep
    have hlsz:∀ j,listed.getD j false=true->listed.getD j true=true:=fun j h=>getD_true_of_false h
    have hbef:∀ j∈bfAt bf i,listed.getD j false=true:=fun j hj=>bf_listed hbf hI.down hlsz i i j o (Nat.le_refl _) ho hj hready
    have haft:∀ w,w<ops.size->i∈bfAt bf w->listed.getD w true=false:=fun v hv hiv=>by
     cases hq2:listed.getD v true with
     | false=>rfl
     | true =>
      have hov:ops[v]? = some ops[v]:=Array.getElem?_eq_getElem hv
      have:=bf_listed hbf hI.down hlsz v v i _ (Nat.le_refl _) hov hiv (fun e he hb=>hI.down v _ hov hq2 e he hb)
      rw [hlsz _ this] at hun; cases hun
    have hfr:FrDen Γ ρ nx N (rs (lexFr fr (ops.toList.take i) (ss.take i)) (o.looksAt ops)) a:=by
     refine ⟨hI.size,fun t x hx=>?_⟩
     obtain ⟨hmem,hx⟩:=fnd_rs _ _ _ _ hx
     rcases fnd_lex (fr:=fr) (uniq_take i hu) (by simp; omega) t (l:=ops.toList.take i) (ss:=ss.take i) with ⟨j,oj,sj,h1,h2,h3,h4⟩ | ⟨h1,h2⟩
     ·rw [h4] at hx; cases hx
      have hji:j<i:=by
       have:=(List.getElem?_eq_some_iff.1 h1).1
       simp at this; omega
      have hj:ops[j]? = some oj:=by
       rw [List.getElem?_take_of_lt hji] at h1; simpa using h1
      rw [List.getElem?_take_of_lt hji] at h2
      obtain ⟨e,he,he1,he2⟩:=(hpair j i oj o hji hj ho).1 t h3 hmem
      have hl:=hready e he he2
      rw [he1] at hl
      exact hI.new j oj _ t hj h2 (getD_true_of_false hl) h3
     ·rw [h2] at hx
      refine hI.old t x hx (fun j oj hj hdj=>?_)
      by_cases hji:j<i
      ·exact absurd hdj (h1 j oj (by rw [List.getElem?_take_of_lt hji]; simpa using hj))
      ·by_cases hje:j=i
       ·subst hje; exact hun
       ·obtain ⟨e,he,he1,he2⟩:=(hpair i j o oj om ho hj).2 t hdj hmem
        cases hq2:listed.getD j true with
        | false=>rfl
        | true =>
         have:=hI.down j oj hj hq2 e he he2
         rw [he1] at this
         rw [getD_true_of_false this] at hun
         cases hun
    have hU':(U.erase i).length<=fuel:=by
     rw [List.length_erase_of_mem (hUm i hil hun)]; omega
    have hUm':∀ j,j<ops.size->(listed.setIfInBounds i true).getD j true=false->j∈U.erase i:=fun j hj hj2=>by
     rw [getD_set listed i j (by rw [hI.lsize]; exact hil)] at hj2
     split at hj2
     ·cases hj2
     ·rename_i hne
      exact (List.mem_erase_of_ne hne).2 (hUm j hj hj2)
    have hset:∀ v,(listed.setIfInBounds i true).getD v true=true↔(listed.getD v true=true\/v=i):=fun v=>by
     rw [getD_set listed i v (by rw [hI.lsize]; exact hil)]
     split
     ·rename_i e; simp [e]
     ·rename_i e; simp [e]
    unfold wpOpIn
    rw [ho]
    simp only []
    have hnd:i∉(stAt sg k).dn:=fun hi=>by
     have:=(hW.2.1 i (hW.2.2 i hi)).2 hi
     rw [this] at hun; cases hun
    have hmay:mayU bf ws (stAt sg k).dn i=true:=mayU_of hnd fun v hv=>⟨fun h=>(hW.2.1 v hv).1 (hlsz _ (hbef _ h)),fun h hv2=>by
     have h1:=(hW.2.1 v hv).2 hv2
     rw [haft v (hwsz v hv) h] at h1; cases h1⟩
    have hstep:=hstep k hW.1 hmay
    split at hstep
    ·rename_i hws
     have hiw:=hasN_mem hws
     obtain ⟨hg,k',hk',hdn',hop⟩:=hstep
     rw [gd_sound hfr hg,if_pos rfl]
     obtain ⟨v,r,Γ',ρ',w',h1,h2,h3,h4,h5,h6,h6b,h8,h9,h10,h11⟩:=hop Γ ρ w a hI.inv hfr hO
     have hW':k'<sg.length/\(∀ v∈ws,((listed.setIfInBounds i true).getD v true=true↔v∈(stAt sg k').dn))/\∀ v∈(stAt sg k').dn,v∈ws:=by
      refine ⟨hk',fun v hv=>?_,fun v hv=>?_⟩
      ·rw [hset v,hdn' v,hW.2.1 v hv]
      ·rcases (hdn' v).1 hv with h | rfl
       ·exact hW.2.2 v h
       ·exact hiw
     have hq':QInv N ops (stAt sg k').mem nx fr ss Γ' ρ' w' (a.put o.dst v) (listed.setIfInBounds i true):=by
      rcases h6 with h6 | h6
      ·exact hI.stepTo hu hfitS ho hs hready h8 (Nat.le_refl _) h5 h9 h6 h3 h4
      ·exact QInv.stepX hI hu hfitS ho hs hready h9 h8 h5 h6 h3 h4
     have hgo:=ih _ _ k' Γ' ρ' w' _ hU' hUm' hq' hW' h11 (hN.trans ⟨h8,h9,Env.same_mono (Nat.le_trans hn (Nat.le_refl _)) h6b,hN.nx,h10⟩)
     refine ⟨fun _ _=>trivial,?_⟩
     rw [sem_round h1 h2]
     rcases h2 with rfl | ⟨rfl,rfl⟩
     ·exact hgo
     ·exact hgo
    ·rename_i hws
     have hW':k<sg.length/\(∀ v∈ws,((listed.setIfInBounds i true).getD v true=true↔v∈(stAt sg k).dn))/\∀ v∈(stAt sg k).dn,v∈ws:=by
      refine ⟨hW.1,fun v hv=>?_,hW.2.2⟩
      rw [hset v,<- hW.2.1 v hv]
      constructor
      ·rintro (h | rfl)
       ·exact h
       ·exfalso
        have key:∀ {l:List Nat} {n:Nat},n∈l->hasN l n=true:=by
         intro l n hn'
         induction l with
         | nil=>cases hn'
         | cons a l ih =>
          simp only [hasN]
          split
          ·rfl
          ·rename_i hb
           rcases List.mem_cons.1 hn' with rfl | hn'
           ·rw [Nat.beq_refl] at hb; cases hb
           ·exact ih hn'
        rw [key hv] at hws; cases hws
      ·exact .inl
     have hopen:∀ {ρ':Env},Env.same nx ρ ρ'->(∀ r∈(stAt sg k).un,r<nx)->∀ r∈(stAt sg k).un,ρ'.blk r=none/\ρ'.val r=none:=fun h hl r hr=>by
      rw [(h r (hl r hr)).1,(h r (hl r hr)).2]; exact hO r hr
     rcases hstep with ⟨hg,rfl⟩ | ⟨hg,hstep⟩
     ·rw [gd_sound hfr hg,if_neg Bool.false_ne_true]
      refine ⟨fun _ _=>trivial,?_⟩
      have hu':=undef_den (Γ:=Γ) (ρ:=ρ) (n:=nx)
      exact ih _ _ k Γ ρ w _ hU' hUm' (hI.step hu hfitS ho hs hready (Stp.refl _ _ _) hI.inv (Gh.le_refl _) (Env.same_refl _ _) hu'.1 hu'.2) hW' hO hN
     ·rw [gd_sound hfr hg,if_pos rfl]
      rcases hstep with hop | ⟨f,args,hc,hcall⟩
      ·obtain ⟨v,r,Γ',ρ',w',h1,h2,h3,h4,h5,h6,h7,h8,h9,h10⟩:=hop Γ ρ w a hI.inv hfr
       have hgo:=ih _ _ k Γ' ρ' w' _ hU' hUm' (hI.step hu hfitS ho hs hready h8 h5 h9 h6 h3 h4) hW' (hopen h6 (hunlt k)) (hN.trans ⟨h8,h9,Env.same_mono hN.nx h6,hN.nx,h10⟩)
       refine ⟨fun _ _=>trivial,?_⟩
       rw [sem_round h1 h2]
       rcases h2 with rfl | ⟨rfl,rfl⟩
       ·exact hgo
       ·exact hgo
      ·refine wp_of_call hc hcall hI.inv hfr ?_
       rintro v sv Γ' ρ' mem' nx' w' h1 h2 h3 h4 h5 h6 h7 h8 ⟨rfl,rfl,rfl⟩
       exact ih _ _ k Γ' ρ' w' _ hU' hUm' (hI.step hu hfitS ho hs hready h4 h1 h5 h6 h2 h3) hW' (hopen h6 (hunlt k)) (hN.trans ⟨h4,h5,Env.same_mono hN.nx h6,hN.nx,h8⟩)
 let ρ1:Env:=⟨fun r=>if r<nx0 then ρ0.blk r else none,fun r=>if r<nx0 then ρ0.val r else none⟩
 have hsame:Env.same nx0 ρ0 ρ1:=fun r hr=>⟨by simp [ρ1,hr],by simp [ρ1,hr]⟩
 have hinv:Inv Γ0 ρ1 nx mem0 w0.drew:=by
  refine ⟨hok.inv.pub,fun r B hB=>?_,fun r r' b B B' hB hB' hb hb'=>?_⟩
  ·obtain ⟨h1,h2,h3⟩:=hok.inv.priv r B hB
   exact ⟨h1.move (Gh.le_refl _) hsame h2 h3 (fun c hc=>⟨rfl,fun h=>h⟩),Nat.lt_of_lt_of_le h2 hnx,B.bd_mono hnx h3⟩
  ·rw [(hsame r (hok.inv.priv r B hB).2.1).1] at hb
   rw [(hsame r' (hok.inv.priv r' B' hB').2.1).1] at hb'
   exact hok.inv.inj r r' b B B' hB hB' hb hb'
 have hm0:(stAt sg 0).mem=mem0:=by rw [h0]
 have hd0:(stAt sg 0).dn=[]:=by rw [h0]
 have hu0:(stAt sg 0).un=un0:=by rw [h0]
 refine key ops.size (List.range ops.size) _ 0 Γ0 ρ1 w0.drew a0 (by simp) (fun j hj _=>by simpa using hj) ?_ ?_ ?_ ?_
 ·rw [hm0]
  refine ⟨hinv,hok.marks,hok.frame.size,fun t s ht _=>?_,fun j o s d hj _ hl _=>?_,fun j o hj hl=>?_,by simp⟩
  ·obtain ⟨h1,h2⟩:=hok.frame.slot t s ht
   exact ⟨Den.ext (Gh.le_refl _) s _ hsame h2 h1,SV.bd_mono hnx s h2⟩
  ·have:=(Array.getElem?_eq_some_iff.1 hj).1
   simp [this] at hl
  ·have:=(Array.getElem?_eq_some_iff.1 hj).1
   simp [this] at hl
 ·refine ⟨hs0,fun v hv=>?_,fun v hv=>?_⟩
  ·have:=hwsz v hv
   rw [hd0]; simp [this]
  ·rw [hd0] at hv; cases hv
 ·intro r hr
  rw [hu0] at hr
  have:=hun0 r hr
  have h:¬ r<nx0:=om
  simp [ρ1,h]
 ·rw [hm0]
  refine ⟨⟨rfl,rfl,rfl,Nat.le_refl _,fun _ _ _=>rfl,fun b hb=>?_⟩,Gh.le_refl _,Env.same_mono hn hsame,Nat.le_trans hn hnx,fun _ hb=>.inl hb⟩
  obtain ⟨r,B,hB,hb⟩:=hb
  rw [(hsame r (hok.inv.priv r B hB).2.1).1] at hb
  exact .inl ⟨r,B,hB,hb⟩
end
end Go.Proofs.YtmmfpkkamgapkaaGreat.X
