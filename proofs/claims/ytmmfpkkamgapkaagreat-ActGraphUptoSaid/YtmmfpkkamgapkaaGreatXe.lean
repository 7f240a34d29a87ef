/- The operations: their symbolic results and that these are right. Part 3: stores,addresses,numbers,structs. -/
import Derived.WalkKit
import Derived.WideLaws
import Derived.Laws.CopyRow
import Derived.Deep.Quiet
import Derived.Laws.StructEq
import Derived.Great.FillDense
theorem Go.Proofs.YtmmfpkkamgapkaaGreat.om {p:Prop}(h:p:=by omega):p:=h
theorem Go.Proofs.YtmmfpkkamgapkaaGreat.ZZ {p:Prop}(h:p:=by assumption):p:=h
namespace Go.Proofs.YtmmfpkkamgapkaaGreat.X
open Go Go.RowKit
inductive SV where
 | int (k:IntKind) (n:Int)
 | bool (b:Bool)
 | loc (r off:Nat)
 | agg (l:List SV)
 | tup (l:List SV)
 | fn (f:Nat) (first cap:List SV)
 | nils
 | sl (x:Bool) (z:Nat) (xs:List SV)
 | own (r:Nat)
 | relt (r z i o:Nat)
 | osub (r z lo n:Nat)
 | elt (s:SV)
 | raw (v:Value)
 | any
 | junk
 deriving Inhabited
def fnd {α:Type} : List (Nat×α)->Nat->Option α
 | [],_=>none
 | (k,v) :: l,n=>match Nat.beq k n with
  | true=>some v
  | false=>fnd l n
theorem fnd_cons {α:Type}(k n:Nat)(v:α)(l:List (Nat×α)):fnd ((k,v) :: l) n=if k=n then some v else fnd l n:=by
 by_cases h:k=n
 ·subst h; simp [fnd]
 ·cases hb:Nat.beq k n with
  | true=>exact absurd (Nat.eq_of_beq_eq_true hb) h
  | false=>simp [fnd,hb,h]
structure Gh where
 at_:Nat->Option (List Value)
 lo:Nat
instance:CoeFun Gh (fun _=>Nat->Option (List Value)):=⟨Gh.at_⟩
structure Env where
 blk:Nat->Option Nat
 val:Nat->Option Value
def Env.nil:Env:=⟨fun _=>none,fun _=>none⟩
mutual
def Den (Γ:Gh):Env->SV->Value->Prop
 | _,.int k n,v=>v = .int k n
 | _,.bool b,v=>v = .bool b
 | ρ,.loc r o,v=>∃ b,ρ.blk r=some b/\v = .pointer (some ⟨b,o,none⟩)
 | ρ,.agg l,v=>∃ vs,v = .agg vs/\DenL Γ ρ l vs.toList
 | ρ,.tup l,v=>∃ vs,v = .tuple vs/\DenL Γ ρ l vs.toList
 | ρ,.fn f a c,v=>∃ va vc,v = .func (.func f) va vc/\DenL Γ ρ a va.toList/\DenL Γ ρ c vc.toList
 | _,.nils,v=>v = .slice none 0 0
 | _,.sl x z xs,v=>(∃ ad,v = .slice ad 0 0/\xs=[]) \/
   ∃ b off cap cs,v = .slice (some ⟨b,off,none⟩) xs.length cap/\xs.length<=cap/\(x=true->cap=xs.length)/\Γ b=some cs/\off + cap * z<=cs.length/\DenE Γ z xs (cs.drop off)
 | ρ,.own r,v=>ρ.val r=some v/\v.oneCell'=true
 | ρ,.relt r z i o,v=>∃ b,ρ.blk r=some b/\v = .pointer (some ⟨b,i * z + o,none⟩)
 | ρ,.osub r z lo n,v=>∃ b cap off,ρ.blk r=some b/\(n≠0->off=lo * z)/\v = .slice (some ⟨b,off,none⟩) n cap
 | _,.elt s,v=>∃ b off cs u,v = .pointer (some ⟨b,off,none⟩)/\Γ b=some cs/\Den Γ Env.nil s u/\off + u.cells.size<=cs.length/\u.cells.toList=(cs.drop off).take u.cells.size
 | _,.raw u,v=>v=u/\u.oneCell'=true
 | _,.any,v=>v.oneCell'=true
 | _,.junk,_=>True
def DenL (Γ:Gh):Env->List SV->List Value->Prop
 | _,[],vs=>vs=[]
 | ρ,s :: l,vs=>∃ v r,vs=v :: r/\Den Γ ρ s v/\DenL Γ ρ l r
def DenE (Γ:Gh):Nat->List SV->List Value->Prop
 | _,[],_=>True
 | z,s :: l,cs=>(∃ v,Den Γ Env.nil s v/\v.cells.size=z/\v.cells.toList=cs.take z)/\DenE Γ z l (cs.drop z)
end
mutual
def SV.bd (n:Nat):SV->Bool
 | .loc r _=>Nat.blt r n
 | .own r=>Nat.blt r n
 | .relt r _ _ _=>Nat.blt r n
 | .osub r _ _ _=>Nat.blt r n
 | .agg l=>bdL n l
 | .tup l=>bdL n l
 | .fn _ a c=>bdL n a && bdL n c
 | _=>true
def bdL (n:Nat):List SV->Bool
 | []=>true
 | s :: l=>s.bd n && bdL n l
end
def Gh.sub (Γ Γ':Gh):Prop:=∀ b cs,Γ b=some cs->Γ' b=some cs
def Gh.le (Γ Γ':Gh):Prop:=Γ.sub Γ'/\Γ'.lo=Γ.lo
def Gh.re (Γ:Gh)(n:Nat):Gh:=⟨Γ.at_,n⟩
theorem Gh.sub_re (Γ:Gh)(n:Nat):Γ.sub (Γ.re n):=fun _ _ h=>h
theorem Gh.le_refl (Γ:Gh):Γ.le Γ:=⟨fun _ _ h=>h,rfl⟩
theorem Gh.le_trans {a b c:Gh}(h:a.le b)(k:b.le c):a.le c:=⟨fun x y z=>k.1 x y (h.1 x y z),k.2.trans h.2⟩
def Env.same (n:Nat)(ρ ρ':Env):Prop:=∀ r,r<n->ρ'.blk r=ρ.blk r/\ρ'.val r=ρ.val r
theorem Env.same_refl (n:Nat)(ρ:Env):ρ.same n ρ:=fun _ _=>⟨rfl,rfl⟩
mutual
theorem Den.ext0 {Γ Γ':Gh}(hΓ:Γ.sub Γ'):∀ {n:Nat} {ρ ρ':Env} (s:SV) (v:Value),Env.same n ρ ρ'->s.bd n=true->Den Γ ρ s v->Den Γ' ρ' s v
 | _,_,_,.int _ _,_,_,_,h=>by simpa only [Den] using h
 | _,_,_,.bool _,_,_,_,h=>by simpa only [Den] using h
 | n,ρ,ρ',.loc r o,v,hs,hb,h=>by
  have hr:r<n:=by simpa [SV.bd] using hb
  simp only [Den] at *
  rw [(hs r hr).1]; exact h
 | n,ρ,ρ',.agg l,v,hs,hb,h=>by
  simp only [Den,SV.bd] at *
  obtain ⟨vs,e,h⟩:=h
  exact ⟨vs,e,DenL.ext0 hΓ l _ hs hb h⟩
 | n,ρ,ρ',.tup l,v,hs,hb,h=>by
  simp only [Den,SV.bd] at *
  obtain ⟨vs,e,h⟩:=h
  exact ⟨vs,e,DenL.ext0 hΓ l _ hs hb h⟩
 | n,ρ,ρ',.fn f a c,v,hs,hb,h=>by
  simp only [Den,SV.bd,Bool.and_eq_true] at *
  obtain ⟨va,vc,e,h1,h2⟩:=h
  exact ⟨va,vc,e,DenL.ext0 hΓ a _ hs hb.1 h1,DenL.ext0 hΓ c _ hs hb.2 h2⟩
 | _,_,_,.nils,_,_,_,h=>by simpa only [Den] using h
 | _,_,_,.sl x z xs,v,_,_,h=>by
  simp only [Den] at *
  refine h.imp id fun ⟨b,off,cap,cs,h1,h2,h3,h4,h5,h6⟩=>⟨b,off,cap,cs,h1,h2,h3,hΓ _ _ h4,h5,DenE.ext0 hΓ z xs _ h6⟩
 | n,ρ,ρ',.own r,v,hs,hb,h=>by
  have hr:r<n:=by simpa [SV.bd] using hb
  simp only [Den] at *
  rw [(hs r hr).2]; exact h
 | n,ρ,ρ',.relt r z i o,v,hs,hb,h=>by
  have hr:r<n:=by simpa [SV.bd] using hb
  simp only [Den] at *
  rw [(hs r hr).1]; exact h
 | n,ρ,ρ',.osub r z lo k,v,hs,hb,h=>by
  have hr:r<n:=by simpa [SV.bd] using hb
  simp only [Den] at *
  rw [(hs r hr).1]; exact h
 | _,_,_,.elt s,v,_,_,h=>by
  simp only [Den] at *
  obtain ⟨b,off,cs,u,h1,h2,h3,h4⟩:=h
  exact ⟨b,off,cs,u,h1,hΓ _ _ h2,Den.pub0 hΓ s _ h3,h4⟩
 | _,_,_,.raw _,_,_,_,h=>by simpa only [Den] using h
 | _,_,_,.any,_,_,_,h=>by simpa only [Den] using h
 | _,_,_,.junk,_,_,_,_=>by simp only [Den]
theorem DenL.ext0 {Γ Γ':Gh}(hΓ:Γ.sub Γ'):∀ {n:Nat} {ρ ρ':Env} (l:List SV) (vs:List Value),Env.same n ρ ρ'->bdL n l=true->DenL Γ ρ l vs->DenL Γ' ρ' l vs
 | _,_,_,[],_,_,_,h=>by simpa only [DenL] using h
 | n,ρ,ρ',s :: l,vs,hs,hb,h=>by
  simp only [DenL,bdL,Bool.and_eq_true] at *
  obtain ⟨v,r,e,h1,h2⟩:=h
  exact ⟨v,r,e,Den.ext0 hΓ s v hs hb.1 h1,DenL.ext0 hΓ l r hs hb.2 h2⟩
theorem Den.pub0 {Γ Γ':Gh}(hΓ:Γ.sub Γ'):∀ (s:SV) (v:Value),Den Γ Env.nil s v->Den Γ' Env.nil s v
 | .int _ _,_,h=>by simpa only [Den] using h
 | .bool _,_,h=>by simpa only [Den] using h
 | .loc r o,v,h=>by simpa only [Den] using h
 | .agg l,v,h=>by
  simp only [Den] at *
  obtain ⟨vs,e,h⟩:=h
  exact ⟨vs,e,DenL.pub0 hΓ l _ h⟩
 | .tup l,v,h=>by
  simp only [Den] at *
  obtain ⟨vs,e,h⟩:=h
  exact ⟨vs,e,DenL.pub0 hΓ l _ h⟩
 | .fn f a c,v,h=>by
  simp only [Den] at *
  obtain ⟨va,vc,e,h1,h2⟩:=h
  exact ⟨va,vc,e,DenL.pub0 hΓ a _ h1,DenL.pub0 hΓ c _ h2⟩
 | .nils,_,h=>by simpa only [Den] using h
 | .sl x z xs,v,h=>by
  simp only [Den] at *
  refine h.imp id fun ⟨b,off,cap,cs,h1,h2,h3,h4,h5,h6⟩=>⟨b,off,cap,cs,h1,h2,h3,hΓ _ _ h4,h5,DenE.ext0 hΓ z xs _ h6⟩
 | .own r,v,h=>by simpa only [Den] using h
 | .relt _ _ _ _,v,h=>by simpa only [Den] using h
 | .osub _ _ _ _,v,h=>by simpa only [Den] using h
 | .elt s,v,h=>by
  simp only [Den] at *
  obtain ⟨b,off,cs,u,h1,h2,h3,h4⟩:=h
  exact ⟨b,off,cs,u,h1,hΓ _ _ h2,Den.pub0 hΓ s _ h3,h4⟩
 | .raw _,_,h=>by simpa only [Den] using h
 | .any,_,h=>by simpa only [Den] using h
 | .junk,_,_=>by simp only [Den]
theorem DenL.pub0 {Γ Γ':Gh}(hΓ:Γ.sub Γ'):∀ (l:List SV) (vs:List Value),DenL Γ Env.nil l vs->DenL Γ' Env.nil l vs
 | [],_,h=>by simpa only [DenL] using h
 | s :: l,vs,h=>by
  simp only [DenL] at *
  obtain ⟨v,r,e,h1,h2⟩:=h
  exact ⟨v,r,e,Den.pub0 hΓ s v h1,DenL.pub0 hΓ l r h2⟩
theorem DenE.ext0 {Γ Γ':Gh}(hΓ:Γ.sub Γ'):∀ (z:Nat) (l:List SV) (cs:List Value),DenE Γ z l cs->DenE Γ' z l cs
 | _,[],_,_=>by simp only [DenE]
 | z,s :: l,cs,h=>by
  simp only [DenE] at *
  obtain ⟨⟨v,h1,h2⟩,h3⟩:=h
  exact ⟨⟨v,Den.pub0 hΓ s v h1,h2⟩,DenE.ext0 hΓ z l _ h3⟩
end
theorem Den.ext {Γ Γ':Gh}(hΓ:Γ.le Γ'){n:Nat}{ρ ρ':Env}(s:SV)(v:Value)(h1:Env.same n ρ ρ')(h2:s.bd n=true)(h3:Den Γ ρ s v):Den Γ' ρ' s v:=Den.ext0 hΓ.1 s v h1 h2 h3
theorem DenL.ext {Γ Γ':Gh}(hΓ:Γ.le Γ'){n:Nat}{ρ ρ':Env}(l:List SV)(vs:List Value)(h1:Env.same n ρ ρ')(h2:bdL n l=true)(h3:DenL Γ ρ l vs):DenL Γ' ρ' l vs:=DenL.ext0 hΓ.1 l vs h1 h2 h3
theorem Den.pub {Γ Γ':Gh}(hΓ:Γ.le Γ')(s:SV)(v:Value)(h:Den Γ Env.nil s v):Den Γ' Env.nil s v:=Den.pub0 hΓ.1 s v h
theorem DenL.pub {Γ Γ':Gh}(hΓ:Γ.le Γ')(l:List SV)(vs:List Value)(h:DenL Γ Env.nil l vs):DenL Γ' Env.nil l vs:=DenL.pub0 hΓ.1 l vs h
theorem DenE.ext {Γ Γ':Gh}(hΓ:Γ.le Γ')(z:Nat)(l:List SV)(cs:List Value)(h:DenE Γ z l cs):DenE Γ' z l cs:=DenE.ext0 hΓ.1 z l cs h
structure Lp where
 l:Nat
 left:Option Code
 fr:List (Nat×SV)
 N:Nat
 fn:FuncId
 ps:Array Tmp
 assign:Code
 body:Code
def Lp.record (q:Lp)(tmps:Array Value)(dfr:Nat):Loop:={ state:=if q.left.isNone then .ready else .done,pending:=q.left,fn:=q.fn,tmps:=tmps,params:=q.ps,assign:=q.assign,body:=q.body,defers:=dfr }
inductive Blk where
 | cells (l:List SV) (E:Nat)
 | row (z E:Nat) (xs:List SV)
 | lp (nb:Nat) (q:Lp)
 | mp (p:Bool) (k:IntKind) (es:List (Int×SV))
abbrev Mem:=List (Nat×Blk)
abbrev Fr:=List (Nat×SV)
def upd {α:Type} : List (Nat×α)->Nat->α->List (Nat×α)
 | [],_,_=>[]
 | (k,v) :: l,n,u=>match Nat.beq k n with
  | true=>(k,u) :: l
  | false=>(k,v) :: upd l n u
theorem fnd_upd {α:Type}(l:List (Nat×α))(n m:Nat)(u:α)(h:(fnd l n).isSome=true):fnd (upd l n u) m=if m=n then some u else fnd l m:=by
 induction l with
 | nil=>simp [fnd] at h
 | cons p l ih =>
  obtain ⟨k,v⟩:=p
  cases hb:Nat.beq k n with
  | true =>
   have hk:k=n:=Nat.eq_of_beq_eq_true hb
   subst hk
   simp only [upd,hb,fnd_cons]
   by_cases hm:m=k
   ·subst hm; simp
   ·simp only [if_neg hm,if_neg (fun e=>hm e.symm:¬ k=m)]
  | false =>
   have hk:k≠n:=fun e=>by subst e; simp at hb
   simp only [upd,hb,fnd_cons]
   rw [fnd_cons,if_neg hk] at h
   rw [ih h]
   by_cases hm:m=n
   ·subst hm; rw [if_neg hk,if_pos rfl,if_pos rfl]
   ·simp only [if_neg hm]
def EntsOk (Γ:Gh)(ρ:Env)(k:IntKind):List (Int×SV)->List MapEntry->Prop
 | [],l=>l=[]
 | (n,s) :: es,l=>∃ e r,l=e :: r/\e.key = .int k n/\Den Γ ρ s e.val/\EntsOk Γ ρ k es r
def bdE (n:Nat):List (Int×SV)->Bool
 | []=>true
 | (_,s) :: es=>s.bd n && bdE n es
theorem EntsOk.ext {Γ Γ':Gh}(hΓ:Γ.sub Γ'){k:IntKind}{n:Nat}{ρ ρ':Env}(hs:Env.same n ρ ρ'):∀ {es:List (Int×SV)} {l:List MapEntry},bdE n es=true->EntsOk Γ ρ k es l->EntsOk Γ' ρ' k es l
 | [],_,_,h=>h
 | (m,s) :: es,l,hb,h=>by
  simp only [bdE,Bool.and_eq_true] at hb
  obtain ⟨e,r,h1,h2,h3,h4⟩:=h
  exact ⟨e,r,h1,h2,Den.ext0 hΓ s _ hs hb.1 h3,EntsOk.ext hΓ hs hb.2 h4⟩
theorem EntsOk.pub {Γ Γ':Gh}(hΓ:Γ.sub Γ'){k:IntKind} : ∀ {es:List (Int×SV)} {l:List MapEntry},EntsOk Γ Env.nil k es l->EntsOk Γ' Env.nil k es l
 | [],_,h=>h
 | (m,s) :: es,l,h=>by
  obtain ⟨e,r,h1,h2,h3,h4⟩:=h
  exact ⟨e,r,h1,h2,Den.pub0 hΓ s _ h3,EntsOk.pub hΓ h4⟩
def pe (p:Bool)(ρ:Env):Env:=match p with
 | true=>Env.nil
 | false=>ρ
theorem EntsOk.move {Γ Γ':Gh}(hΓ:Γ.sub Γ'){p:Bool}{k:IntKind}{n:Nat}{ρ ρ':Env}(hs:Env.same n ρ ρ'){es:List (Int×SV)}{l:List MapEntry}(hb:(p || bdE n es)=true)(h:EntsOk Γ (pe p ρ) k es l):EntsOk Γ' (pe p ρ') k es l:=by
 cases p with
 | true=>exact EntsOk.pub hΓ h
 | false=>exact EntsOk.ext hΓ hs hb h
def BlkOk (Γ:Gh)(ρ:Env)(w:World)(r:Nat):Blk->Prop
 | .cells l E=>∃ b arr,ρ.blk r=some b/\w.heap[b]? = some (.cells arr E (0,0))/\DenL Γ ρ l arr.toList/\(∀ c∈arr.toList,c.oneCell'=true)/\Γ b=none
 | .row z E xs=>∃ v,ρ.val r=some v/\((v = .slice none 0 0/\xs=[]/\ρ.blk r=none) \/
   ∃ b arr cap,ρ.blk r=some b/\v = .slice (some ⟨b,0,none⟩) xs.length cap/\w.heap[b]? = some (.cells arr E (0,0))/\xs.length<=cap/\arr.size=cap * z/\DenE Γ z xs arr.toList/\(∀ c∈arr.toList,c.oneCell'=true)/\Γ b=none)
 | .lp nb q=>ρ.blk r=some q.l/\Γ q.l=none/\∃ tmps dfr,w.heap[q.l]? = some (.loop (q.record tmps dfr))/\tmps.size=q.N/\∀ d s,fnd q.fr d=some s->Den Γ ρ s (tmps.getD d undef)/\s.bd nb=true
 | .mp p k es=>∃ b arr clock,ρ.blk r=some b/\ρ.val r=some (.map (some b))/\w.heap[b]? = some (.map arr clock)/\EntsOk Γ (pe p ρ) k es arr.toList/\Γ b=none
def Blk.bd (n:Nat):Blk->Bool
 | .cells l _=>bdL n l
 | .row _ _ _=>true
 | .lp nb _=>Nat.ble nb n
 | .mp p _ es=>p || bdE n es
structure Inv (Γ:Gh) (ρ:Env) (nx:Nat) (mem:Mem) (w:World):Prop where
 pub:∀ b cs,Γ b=some cs->∃ E fz,w.heap[b]? = some (.cells cs.toArray E fz)
 priv:∀ r B,fnd mem r=some B->BlkOk Γ ρ w r B/\r<nx/\B.bd nx=true
 inj:∀ r r' b B B',fnd mem r=some B->fnd mem r'=some B'->ρ.blk r=some b->ρ.blk r'=some b->r=r'
def Owned (ρ:Env)(mem:Mem)(b:Nat):Prop:=∃ r B,fnd mem r=some B/\ρ.blk r=some b
structure Stp (ρ:Env) (mem:Mem) (w:World) (ρ':Env) (mem':Mem) (w':World):Prop where
 os:w'.os=w.os
 tape:w'.tape=w.tape
 output:w'.output=w.output
 size:w.heap.size<=w'.heap.size
 keep:∀ b,b<w.heap.size->¬ Owned ρ mem b->w'.heap[b]? = w.heap[b]?
 own:∀ b,Owned ρ' mem' b->Owned ρ mem b\/w.heap.size<=b
theorem Stp.refl (ρ:Env)(mem:Mem)(w:World):Stp ρ mem w ρ mem w:=⟨rfl,rfl,rfl,Nat.le_refl _,fun _ _ _=>rfl,fun _ h=>.inl h⟩
theorem Stp.trans {ρ ρ₁ ρ₂:Env}{m m₁ m₂:Mem}{w w₁ w₂:World}(h:Stp ρ m w ρ₁ m₁ w₁)(k:Stp ρ₁ m₁ w₁ ρ₂ m₂ w₂):Stp ρ m w ρ₂ m₂ w₂ where
 os:=k.os.trans h.os
 tape:=k.tape.trans h.tape
 output:=k.output.trans h.output
 size:=Nat.le_trans h.size k.size
 keep b hb ho:=(k.keep b (Nat.lt_of_lt_of_le hb h.size) (fun hh=>(h.own b hh).elim ho (fun hh=>by omega))).trans (h.keep b hb ho)
 own b hb:=(k.own b hb).elim (h.own b) (fun hh=>.inr (Nat.le_trans h.size hh))
structure FrDen (Γ:Gh) (ρ:Env) (nx N:Nat) (fr:Fr) (a:Act):Prop where
 size:a.tmps.size=N
 slot:∀ d s,fnd fr d=some s->Den Γ ρ s (a.tmps.getD d undef)/\s.bd nx=true
theorem Inv.lt {Γ:Gh}{ρ:Env}{nx:Nat}{mem:Mem}{w:World}(h:Inv Γ ρ nx mem w){b:Nat}{cs:List Value}(hb:Γ b=some cs):b<w.heap.size:=by
 obtain ⟨E,fz,e⟩:=h.pub b cs hb
 exact (Array.getElem?_eq_some_iff.1 e).1
theorem BlkOk.lt {Γ:Gh}{ρ:Env}{w:World}{r:Nat}{B:Blk}(h:BlkOk Γ ρ w r B){b:Nat}(hb:ρ.blk r=some b):b<w.heap.size:=by
 cases B with
 | cells l E =>
  obtain ⟨b',arr,h1,h2,_⟩:=h
  rw [hb] at h1; cases h1
  exact (Array.getElem?_eq_some_iff.1 h2).1
 | row z E xs =>
  obtain ⟨v,_,h⟩:=h
  rcases h with ⟨_,_,h⟩ | ⟨b',arr,cap,h1,_,h2,_⟩
  ·rw [hb] at h; cases h
  ·rw [hb] at h1; cases h1
   exact (Array.getElem?_eq_some_iff.1 h2).1
 | lp nb q =>
  obtain ⟨h1,_,tmps,dfr,h2,_⟩:=h
  rw [hb] at h1; cases h1
  exact (Array.getElem?_eq_some_iff.1 h2).1
 | mp p k es =>
  obtain ⟨b',arr,clock,h1,_,h2,_⟩:=h
  rw [hb] at h1; cases h1
  exact (Array.getElem?_eq_some_iff.1 h2).1
theorem BlkOk.move {Γ Γ':Gh}(hΓ:Γ.le Γ'){ρ ρ':Env}{w w':World}{r nx:Nat}{B:Blk}(hs:Env.same nx ρ ρ')(hr:r<nx)(hbd:B.bd nx=true)
  (hw:∀ b,ρ.blk r=some b->w'.heap[b]? = w.heap[b]?/\(Γ b=none->Γ' b=none)) (h:BlkOk Γ ρ w r B):BlkOk Γ' ρ' w' r B:=by
 cases B with
 | cells l E =>
  obtain ⟨b,arr,h1,h2,h3,h4,h5⟩:=h
  exact ⟨b,arr,by rw [(hs r hr).1,h1],by rw [(hw b h1).1,h2],DenL.ext hΓ l _ hs hbd h3,h4,(hw b h1).2 h5⟩
 | row z E xs =>
  obtain ⟨v,hv,h⟩:=h
  refine ⟨v,by rw [(hs r hr).2,hv],?_⟩
  rcases h with ⟨h1,h2,h3⟩ | ⟨b,arr,cap,h1,h2,h3,h4,h5,h6,h7,h8⟩
  ·exact .inl ⟨h1,h2,by rw [(hs r hr).1,h3]⟩
  ·exact .inr ⟨b,arr,cap,by rw [(hs r hr).1,h1],h2,by rw [(hw b h1).1,h3],h4,h5,DenE.ext hΓ z xs _ h6,h7,(hw b h1).2 h8⟩
 | lp nb q =>
  obtain ⟨h1,h2,tmps,dfr,h3,h4,h5⟩:=h
  exact ⟨by rw [(hs r hr).1,h1],(hw _ h1).2 h2,tmps,dfr,by rw [(hw _ h1).1,h3],h4,fun d s hd=>⟨Den.ext hΓ s _ (fun x hx=>hs x (Nat.lt_of_lt_of_le hx (Nat.le_of_ble_eq_true hbd))) (h5 d s hd).2 (h5 d s hd).1,(h5 d s hd).2⟩⟩
 | mp p k es =>
  obtain ⟨b,arr,clock,h1,h2,h3,h4,h5⟩:=h
  exact ⟨b,arr,clock,by rw [(hs r hr).1,h1],by rw [(hs r hr).2,h2],by rw [(hw b h1).1,h3],EntsOk.move hΓ.1 hs hbd h4,(hw b h1).2 h5⟩
def Env.add (ρ:Env)(n:Nat)(b:Option Nat)(v:Option Value):Env:=⟨fun r=>if r=n then b else ρ.blk r,fun r=>if r=n then v else ρ.val r⟩
theorem Env.add_same (ρ:Env)(n:Nat)(b:Option Nat)(v:Option Value):Env.same n ρ (ρ.add n b v):=fun r hr=>by
 simp [Env.add,Nat.ne_of_lt hr]
theorem Env.add_blk (ρ:Env)(n:Nat)(b:Option Nat)(v:Option Value):(ρ.add n b v).blk n=b:=by simp [Env.add]
theorem Env.add_val (ρ:Env)(n:Nat)(b:Option Nat)(v:Option Value):(ρ.add n b v).val n=v:=by simp [Env.add]
theorem bd_mono_aux (n m:Nat)(h:n<=m)(r:Nat)(hr:Nat.blt r n=true):Nat.blt r m=true:=by
 simp at *; omega
mutual
theorem SV.bd_mono {n m:Nat}(h:n<=m):∀ s:SV,s.bd n=true->s.bd m=true
 | .loc r _,hs=>bd_mono_aux n m h r hs
 | .own r,hs=>bd_mono_aux n m h r hs
 | .relt r _ _ _,hs=>bd_mono_aux n m h r hs
 | .osub r _ _ _,hs=>bd_mono_aux n m h r hs
 | .agg l,hs=>bdL_mono h l hs
 | .tup l,hs=>bdL_mono h l hs
 | .fn _ a c,hs=>by
  simp only [SV.bd,Bool.and_eq_true] at *
  exact ⟨bdL_mono h a hs.1,bdL_mono h c hs.2⟩
 | .int _ _,_=>rfl
 | .bool _,_=>rfl
 | .nils,_=>rfl
 | .sl _ _ _,_=>rfl
 | .elt _,_=>rfl
 | .raw _,_=>rfl
 | .any,_=>rfl
 | .junk,_=>rfl
theorem bdL_mono {n m:Nat}(h:n<=m):∀ l:List SV,bdL n l=true->bdL m l=true
 | [],_=>rfl
 | s :: l,hs=>by
  simp only [bdL,Bool.and_eq_true] at *
  exact ⟨SV.bd_mono h s hs.1,bdL_mono h l hs.2⟩
end
theorem bdE_mono {n m:Nat}(h:n<=m):∀ {es:List (Int×SV)},bdE n es=true->bdE m es=true
 | [],_=>rfl
 | (_,s) :: es,hb=>by
  simp only [bdE,Bool.and_eq_true] at *
  exact ⟨SV.bd_mono h s hb.1,bdE_mono h hb.2⟩
theorem Blk.bd_mono {n m:Nat}(h:n<=m)(B:Blk)(hb:B.bd n=true):B.bd m=true:=by
 cases B with
 | cells l E=>exact bdL_mono h l hb
 | row z E xs=>rfl
 | lp nb q=>exact Nat.ble_eq_true_of_le (Nat.le_trans (Nat.le_of_ble_eq_true hb) h)
 | mp p k es =>
  simp only [Blk.bd,Bool.or_eq_true] at *
  exact hb.imp id (bdE_mono h)
theorem heap_old (w:World)(o:Obj)(b:Nat)(h:b<w.heap.size):(w.alloc o).heap[b]? = w.heap[b]?:=Go.heap_alloc_old w o h
theorem Inv.alloc {Γ:Gh}{ρ:Env}{nx:Nat}{mem:Mem}{w:World}(h:Inv Γ ρ nx mem w)(o:Obj)(v:Option Value)(B:Blk)(hB:BlkOk Γ (ρ.add nx (some w.heap.size) v) (w.alloc o) nx B)(hbd:B.bd (nx + 1)=true) :
  Inv Γ (ρ.add nx (some w.heap.size) v) (nx + 1) ((nx,B) :: mem) (w.alloc o) where
 pub b cs hb:=by
  obtain ⟨E,fz,e⟩:=h.pub b cs hb
  exact ⟨E,fz,by rw [heap_old w o b (h.lt hb),e]⟩
 priv r C hC:=by
  rw [fnd_cons] at hC
  split at hC
  ·rename_i e; subst e; cases hC
   exact ⟨hB,Nat.lt_succ_self _,hbd⟩
  ·obtain ⟨h1,h2,h3⟩:=h.priv r C hC
   exact ⟨h1.move (Gh.le_refl _) (ρ.add_same nx _ v) h2 h3 (fun b hb=>⟨heap_old w o b (h1.lt hb),id⟩),Nat.lt_succ_of_lt h2,C.bd_mono (Nat.le_succ _) h3⟩
 inj r r' b C C' hC hC' hb hb':=by
  rw [fnd_cons] at hC hC'
  split at hC <;> split at hC'
  ·omega
  ·rename_i e e'
   subst e
   obtain ⟨h1,h2,_⟩:=h.priv r' C' hC'
   rw [(ρ.add_same nx _ v r' h2).1] at hb'
   have:=h1.lt hb'
   rw [Env.add_blk] at hb; cases hb; omega
  ·rename_i e e'
   subst e'
   obtain ⟨h1,h2,_⟩:=h.priv r C hC
   rw [(ρ.add_same nx _ v r h2).1] at hb
   have:=h1.lt hb
   rw [Env.add_blk] at hb'; cases hb'; omega
  ·obtain ⟨h1,h2,_⟩:=h.priv r C hC
   obtain ⟨h1',h2',_⟩:=h.priv r' C' hC'
   rw [(ρ.add_same nx _ v r h2).1] at hb
   rw [(ρ.add_same nx _ v r' h2').1] at hb'
   exact h.inj r r' b C C' hC hC' hb hb'
theorem Stp.alloc {Γ:Gh}{ρ:Env}{nx:Nat}{mem:Mem}{w:World}(h:Inv Γ ρ nx mem w)(o:Obj)(v:Option Value)(B:Blk) :
  Stp ρ mem w (ρ.add nx (some w.heap.size) v) ((nx,B) :: mem) (w.alloc o) where
 os:=rfl
 tape:=rfl
 output:=rfl
 size:=by simp
 keep b hb _:=heap_old w o b hb
 own b:=by
  rintro ⟨r,C,hC,hb⟩
  rw [fnd_cons] at hC
  split at hC
  ·rename_i e; subst e
   rw [Env.add_blk] at hb; cases hb
   exact .inr (Nat.le_refl _)
  ·obtain ⟨_,h2,_⟩:=h.priv r C hC
   rw [(ρ.add_same nx _ v r h2).1] at hb
   exact .inl ⟨r,C,hC,hb⟩
def MkOk (lo:Nat)(w:World)(ds:List Deferred):Prop:=lo<=w.heap.size/\∃ bs:List Nat,ds=bs.map (fun b=>({ target:=.collected b,args:=#[] } : Deferred))/\bs.Nodup/\∀ b∈bs,lo<=b/\w.heap[b]? = some (.deferred (some []))
theorem MkOk.nil {lo:Nat}{w:World}(h:lo<=w.heap.size):MkOk lo w []:=⟨h,[],rfl,List.nodup_nil,fun _ h=>by cases h⟩
theorem Inv.not_owned {Γ:Gh}{ρ:Env}{nx:Nat}{mem:Mem}{w:World}(hi:Inv Γ ρ nx mem w){b:Nat}{d:Option (List Deferred)}(h:w.heap[b]? = some (.deferred d)):¬ Owned ρ mem b:=by
 rintro ⟨r,B,hB,hb⟩
 obtain ⟨h1,_,_⟩:=hi.priv r B hB
 cases B with
 | cells l E=>obtain ⟨b',arr,g1,g2,_⟩:=h1; rw [hb] at g1; cases g1; rw [h] at g2; cases g2
 | row z E xs =>
  obtain ⟨v,_,g⟩:=h1
  rcases g with ⟨_,_,g⟩ | ⟨b',arr,cap,g1,_,g2,_⟩
  ·rw [hb] at g; cases g
  ·rw [hb] at g1; cases g1; rw [h] at g2; cases g2
 | lp nb q=>obtain ⟨g1,_,tmps,dfr,g2,_⟩:=h1; rw [hb] at g1; cases g1; rw [h] at g2; cases g2
 | mp p k es=>obtain ⟨b',arr,clock,g1,_,g2,_⟩:=h1; rw [hb] at g1; cases g1; rw [h] at g2; cases g2
theorem MkOk.step {Γ Γ':Gh}{ρ ρ':Env}{nx:Nat}{mem mem':Mem}{w w':World}{ds:List Deferred}(h:MkOk Γ.lo w ds)(hi:Inv Γ ρ nx mem w)(hs:Stp ρ mem w ρ' mem' w')(hl:Γ.le Γ'):MkOk Γ'.lo w' ds:=by
 obtain ⟨h0,bs,h1,h2,h3⟩:=h
 refine ⟨by rw [hl.2]; exact Nat.le_trans h0 hs.size,bs,h1,h2,fun b hb=>?_⟩
 obtain ⟨h4,h5⟩:=h3 b hb
 exact ⟨by rw [hl.2]; exact h4,by rw [hs.keep b (Array.getElem?_eq_some_iff.1 h5).1 (hi.not_owned h5),h5]⟩
theorem FrDen.grow {Γ Γ':Gh}{ρ ρ':Env}{nx nx' N:Nat}{fr:Fr}{a:Act}(h:FrDen Γ ρ nx N fr a)(hΓ:Γ.le Γ')(hs:Env.same nx ρ ρ')(hn:nx<=nx'):FrDen Γ' ρ' nx' N fr a :=
 ⟨h.size,fun d s hd=>⟨Den.ext hΓ s _ hs (h.slot d s hd).2 (h.slot d s hd).1,SV.bd_mono hn s (h.slot d s hd).2⟩⟩
theorem FrDen.put {Γ:Gh}{ρ:Env}{nx N:Nat}{fr:Fr}{a:Act}(h:FrDen Γ ρ nx N fr a)(d:Nat)(hd:d<N)(s:SV)(v:Value)(hv:Den Γ ρ s v)(hb:s.bd nx=true):FrDen Γ ρ nx N ((d,s) :: fr) (a.put (some d) v) where
 size:=by simp [Act.put,h.size]
 slot d' s' hs:=by
  rw [fnd_cons] at hs
  have hz:d<a.tmps.size:=by rw [h.size]; exact hd
  split at hs
  ·rename_i e; subst e; cases hs
   simp [Act.put,hz,hv,hb]
  ·rename_i e
   have:=h.slot d' s' hs
   simpa [Act.put,Array.getElem?_setIfInBounds,e] using this
inductive TD where
 | bool | int (k:IntKind) | other
 | struct (fs:List (Nat×Nat))
 | arr (len elem:Nat)
 | slice (elem:Nat)
 | map (key elem:Nat)
structure TI where
 cells:Nat
 agg:Bool
 bytes:Nat
 eq:Bool
 d:TD
 zero:List SV
abbrev Tab:=List (Nat×TI)
def SV.const:SV->Option Value
 | .int k n=>some (.int k n)
 | .bool b=>some (.bool b)
 | .nils=>some (.slice none 0 0)
 | .raw v=>if v.oneCell' then some v else none
 | _=>none
def structFs:TypeDesc->Option (List (Nat×Nat))
 | .struct fa=>some (fa.toList.map fun f=>(f.offset,f.type))
 | _=>none
def noBlank:TypeDesc->Bool
 | .struct fa=>fa.toList.all fun f=>f.name != "_"
 | _=>true
def isAggD:TypeDesc->Bool
 | .struct _ | .array _ _=>true
 | _=>false
def DescOk (P:Program)(t:Nat):TD->Prop
 | .bool=>P.underlying t=some .bool
 | .int k=>P.underlying t=some (.int k)
 | .other=>True
 | .struct fs=>(P.underlying t).bind structFs=some fs
 | .arr n e=>P.underlying t=some (.array n e)
 | .slice e=>P.underlying t=some (.slice e)
 | .map k e=>P.underlying t=some (.map k e)
structure TIok (P:Program) (t:Nat) (ti:TI):Prop where
 info:(P.info? t).map (fun i=>(i.size,i.bytes))=some (ti.cells,ti.bytes)
 zero:((P.info? t).bind (·.zero)).map (fun zv=>zv.cells.toList.map some)=some (ti.zero.map SV.const)
 zlen:ti.zero.length=ti.cells
 und:(P.underlying t).map isAggD=some ti.agg
 desc:DescOk P t ti.d
 eq:ti.eq=true->P.stoodInHeld t=false/\P.eqGuardType P.depth t=false/\(P.underlying t).map noBlank=some true
 one:ti.agg=false->((P.info? t).bind (·.zero)).map Value.oneCell'=some true
def TabOk (P:Program)(T:Tab):Prop:=∀ t ti,fnd T t=some ti->TIok P t ti
theorem tabOk_nil (P:Program):TabOk P []:=fun _ _ h=>by simp [fnd] at h
theorem tabOk_cons {P:Program}{T:Tab}{t:Nat}{ti:TI}(h:TIok P t ti)(hT:TabOk P T):TabOk P ((t,ti) :: T):=fun u ui hu=>by
 rw [fnd_cons] at hu
 split at hu
 ·rename_i e; subst e; cases hu; exact h
 ·exact hT u ui hu
section
variable {P:Program} {t:Nat} {ti:TI}
theorem TIok.typeInfo (h:TIok P t ti):∃ i,(∀ w,(typeInfo t).run P w = .ok i w)/\i.size=ti.cells/\i.bytes=ti.bytes/\P.info? t=some i:=by
 have hi:=h.info
 cases hq:P.info? t with
 | none=>simp [hq] at hi
 | some i =>
  simp [hq] at hi
  exact ⟨i,fun w=>by simp [Go.typeInfo,hq],hi.1,hi.2,rfl⟩
theorem TIok.sizeOf (h:TIok P t ti)(w:World):(sizeOf t).run P w = .ok ti.cells w:=by
 obtain ⟨i,h1,h2,_⟩:=h.typeInfo
 simp [Go.sizeOf,h1,h2]
theorem TIok.isAgg (h:TIok P t ti)(w:World):(isAgg t).run P w = .ok ti.agg w:=by
 have hu:=h.und
 cases hq:P.underlying t with
 | none=>simp [hq] at hu
 | some d =>
  simp [hq] at hu
  unfold Go.isAgg
  rw [Sem.run_bind,run_underlying hq w]
  cases d <;> simp_all [isAggD]
theorem TIok.zeroValue (h:TIok P t ti):∃ zv:Value,(∀ w,(zeroValue t).run P w = .ok zv w)/\zv.cells.toList.map some=ti.zero.map SV.const:=by
 obtain ⟨i,h1,_,_,hi⟩:=h.typeInfo
 have hz:=h.zero
 rw [hi] at hz
 cases hq:i.zero with
 | none=>simp [hq] at hz
 | some zv =>
  simp [hq] at hz
  exact ⟨zv,fun w=>by simp [Go.zeroValue,h1,hq],hz⟩
end
section
variable {Γ:Gh} {ρ:Env}
theorem DenL.length:∀ {l:List SV} {vs:List Value},DenL Γ ρ l vs->vs.length=l.length
 | [],_,h=>by simp only [DenL] at h; simp [h]
 | s :: l,vs,h=>by
  simp only [DenL] at h
  obtain ⟨v,r,e,_,h2⟩:=h
  subst e
  simp [DenL.length h2]
theorem DenL.drop:∀ (n:Nat) {l:List SV} {vs:List Value},DenL Γ ρ l vs->DenL Γ ρ (l.drop n) (vs.drop n)
 | 0,_,_,h=>by simpa using h
 | n + 1,[],vs,h=>by simp only [DenL] at h; subst h; simp [DenL]
 | n + 1,s :: l,vs,h=>by
  simp only [DenL] at h
  obtain ⟨v,r,e,_,h2⟩:=h
  subst e
  simpa using DenL.drop n h2
theorem DenL.take:∀ (n:Nat) {l:List SV} {vs:List Value},DenL Γ ρ l vs->DenL Γ ρ (l.take n) (vs.take n)
 | 0,_,_,_=>by simp [DenL]
 | n + 1,[],vs,h=>by simp only [DenL] at h; subst h; simp [DenL]
 | n + 1,s :: l,vs,h=>by
  simp only [DenL] at h
  obtain ⟨v,r,e,h1,h2⟩:=h
  subst e
  simp only [List.take_succ_cons,DenL]
  exact ⟨v,_,rfl,h1,DenL.take n h2⟩
theorem DenL.append:∀ {l l':List SV} {vs vs':List Value},DenL Γ ρ l vs->DenL Γ ρ l' vs'->DenL Γ ρ (l++l') (vs++vs')
 | [],_,_,_,h,h'=>by simp only [DenL] at h; subst h; simpa using h'
 | s :: l,l',vs,vs',h,h'=>by
  simp only [DenL] at h
  obtain ⟨v,r,e,h1,h2⟩:=h
  subst e
  simp only [List.cons_append,DenL]
  exact ⟨v,_,rfl,h1,DenL.append h2 h'⟩
theorem DenL.get:∀ {l:List SV} {vs:List Value} (i:Nat) {s:SV},DenL Γ ρ l vs->l[i]? = some s->∃ v,vs[i]? = some v/\Den Γ ρ s v
 | [],_,i,s,_,hi=>by simp at hi
 | x :: l,vs,0,s,h,hi=>by
  simp only [DenL] at h
  obtain ⟨v,r,e,h1,_⟩:=h
  subst e
  simp at hi; subst hi
  exact ⟨v,rfl,h1⟩
 | x :: l,vs,i + 1,s,h,hi=>by
  simp only [DenL] at h
  obtain ⟨v,r,e,_,h2⟩:=h
  subst e
  simp at hi
  simpa using DenL.get i h2 hi
theorem DenL.map {α:Type}(f:α->SV)(g:α->Value):∀ (l:List α),(∀ x∈l,Den Γ ρ (f x) (g x))->DenL Γ ρ (l.map f) (l.map g)
 | [],_=>by simp [DenL]
 | x :: l,h=>by
  simp only [List.map_cons,DenL]
  exact ⟨g x,_,rfl,h x (by simp),DenL.map f g l (fun y hy=>h y (by simp [hy]))⟩
end
theorem bdL_drop {n:Nat} : ∀ (k:Nat) {l:List SV},bdL n l=true->bdL n (l.drop k)=true
 | 0,_,h=>by simpa using h
 | k + 1,[],_=>by simp [bdL]
 | k + 1,s :: l,h=>by
  simp only [bdL,Bool.and_eq_true] at h
  simpa using bdL_drop k h.2
theorem bdL_take {n:Nat} : ∀ (k:Nat) {l:List SV},bdL n l=true->bdL n (l.take k)=true
 | 0,_,_=>by simp [bdL]
 | k + 1,[],_=>by simp [bdL]
 | k + 1,s :: l,h=>by
  simp only [bdL,Bool.and_eq_true] at h
  simp only [List.take_succ_cons,bdL,Bool.and_eq_true]
  exact ⟨h.1,bdL_take k h.2⟩
theorem bdL_append {n:Nat} : ∀ {l l':List SV},bdL n l=true->bdL n l'=true->bdL n (l++l')=true
 | [],_,_,h=>by simpa using h
 | s :: l,l',h,h'=>by
  simp only [bdL,Bool.and_eq_true] at h
  simp only [List.cons_append,bdL,Bool.and_eq_true]
  exact ⟨h.1,bdL_append h.2 h'⟩
theorem bdL_get {n:Nat} : ∀ {l:List SV} (i:Nat) {s:SV},bdL n l=true->l[i]? = some s->s.bd n=true
 | [],i,s,_,hi=>by simp at hi
 | x :: l,0,s,h,hi=>by
  simp only [bdL,Bool.and_eq_true] at h
  simp at hi; subst hi; exact h.1
 | x :: l,i + 1,s,h,hi=>by
  simp only [bdL,Bool.and_eq_true] at h
  simp at hi
  exact bdL_get i h.2 hi
def SV.single:SV->Bool
 | .agg _ | .tup _ | .junk=>false
 | _=>true
theorem Den.single {Γ:Gh}{ρ:Env} : ∀ {s:SV} {v:Value},Den Γ ρ s v->s.single=true->v.oneCell'=true
 | .int _ _,v,h,_=>by simp only [Den] at h; subst h; rfl
 | .bool _,v,h,_=>by simp only [Den] at h; subst h; rfl
 | .loc _ _,v,h,_=>by simp only [Den] at h; obtain ⟨_,_,rfl⟩:=h; rfl
 | .fn _ _ _,v,h,_=>by simp only [Den] at h; obtain ⟨_,_,rfl,_⟩:=h; rfl
 | .nils,v,h,_=>by simp only [Den] at h; subst h; rfl
 | .sl _ _ _,v,h,_=>by
  simp only [Den] at h
  rcases h with ⟨_,rfl,_⟩ | ⟨_,_,_,_,rfl,_⟩ <;> rfl
 | .own _,v,h,_=>by simp only [Den] at h; exact h.2
 | .relt _ _ _ _,v,h,_=>by simp only [Den] at h; obtain ⟨_,_,rfl⟩:=h; rfl
 | .osub _ _ _ _,v,h,_=>by simp only [Den] at h; obtain ⟨_,_,_,_,_,rfl⟩:=h; rfl
 | .elt _,v,h,_=>by simp only [Den] at h; obtain ⟨_,_,_,_,rfl,_⟩:=h; rfl
 | .raw _,v,h,_=>by simp only [Den] at h; exact h.1 ▸ h.2
 | .any,v,h,_=>by simpa only [Den] using h
theorem cells_of_one {v:Value}(h:v.oneCell'=true):v.cells = #[v]:=by
 cases v <;> first | rfl | simp [Value.oneCell'] at h
def cellsOf:SV->Option (List SV)
 | .agg l=>if l.all SV.single then some l else none
 | .tup _=>none
 | .junk=>none
 | s=>some [s]
theorem DenL.single {Γ:Gh}{ρ:Env} : ∀ {l:List SV} {vs:List Value},DenL Γ ρ l vs->l.all SV.single=true->∀ c∈vs,c.oneCell'=true
 | [],vs,h,_,c,hc=>by simp only [DenL] at h; subst h; simp at hc
 | s :: l,vs,h,ha,c,hc=>by
  simp only [DenL] at h
  obtain ⟨v,r,e,h1,h2⟩:=h
  subst e
  simp only [List.all_cons,Bool.and_eq_true] at ha
  rcases List.mem_cons.1 hc with rfl | hc
  ·exact h1.single ha.1
  ·exact DenL.single h2 ha.2 c hc
theorem cellsOf_den {Γ:Gh}{ρ:Env}{n:Nat}{s:SV}{v:Value}{l:List SV}(hc:cellsOf s=some l)(h:Den Γ ρ s v)(hb:s.bd n=true) :
  DenL Γ ρ l v.cells.toList/\(∀ c∈v.cells.toList,c.oneCell'=true)/\bdL n l=true:=by
 have one:s.single=true->l=[s]->DenL Γ ρ l v.cells.toList/\(∀ c∈v.cells.toList,c.oneCell'=true)/\bdL n l=true:=fun hs hl=>by
  have h1:=h.single hs
  subst hl
  rw [cells_of_one h1]
  refine ⟨by simp only [DenL]; exact ⟨v,[],rfl,h,rfl⟩,by simpa using h1,by simp [bdL,hb]⟩
 cases s with
 | agg l' =>
  simp only [cellsOf] at hc
  split at hc
  ·rename_i ha; cases hc
   simp only [Den] at h
   obtain ⟨vs,rfl,h⟩:=h
   exact ⟨h,h.single ha,hb⟩
  ·cases hc
 | tup l'=>simp [cellsOf] at hc
 | junk=>simp [cellsOf] at hc
 | _=>exact one rfl (by simpa [cellsOf] using hc.symm)
def ofVal:Value->SV
 | .int k n=>.int k n
 | .bool b=>.bool b
 | .slice none 0 0=>.nils
 | .agg _=>.junk
 | .tuple _=>.junk
 | v=>.raw v
theorem ofVal_den (Γ:Gh)(ρ:Env)(n:Nat)(v:Value):Den Γ ρ (ofVal v) v/\(ofVal v).bd n=true:=by
 unfold ofVal
 split <;> simp_all [Den,SV.bd]
 rename_i h1 h2 h3 h4 h5
 cases v <;> first | rfl | exact absurd rfl (h1 _ _) | exact absurd rfl (h2 _) | exact (h4 _ rfl).elim | exact (h5 _ rfl).elim
def evo (fr:Fr):Operand->SV
 | .tmp t=>match fnd fr t with
  | some s=>s
  | none=>.junk
 | .const v=>ofVal v
 | .func f=>.fn f [] []
 | .global g=>.raw (.pointer (some ⟨g,0,none⟩))
theorem evo_den {Γ:Gh}{ρ:Env}{nx N:Nat}{fr:Fr}{a:Act}(h:FrDen Γ ρ nx N fr a)(x:Operand):Den Γ ρ (evo fr x) (a.eval x)/\(evo fr x).bd nx=true:=by
 cases x with
 | tmp t =>
  simp only [evo]
  cases hf:fnd fr t with
  | none=>simp [Den,SV.bd]
  | some s=>simpa [Act.eval] using h.slot t s hf
 | const v=>exact ofVal_den Γ ρ nx v
 | func f=>exact ⟨by simp only [evo,Den,Act.eval]; exact ⟨#[],#[],rfl,by simp [DenL],by simp [DenL]⟩,rfl⟩
 | global g=>exact ⟨by simp only [evo,Den,Act.eval]; exact ⟨trivial,rfl⟩,rfl⟩
def OpOk (P:Program)(N:Nat)(fr:Fr)(mem:Mem)(nx:Nat)(o:Oper)(sv:SV)(mem':Mem)(nx':Nat):Prop :=
 ∀ Γ ρ w a,Inv Γ ρ nx mem w->FrDen Γ ρ nx N fr a->∃ v r Γ' ρ' w',(execOp a.eval o).run P w = .ok r w'/\(r = .value v\/r = .skip/\v=undef) /\
  Den Γ' ρ' sv v/\sv.bd nx'=true/\Inv Γ' ρ' nx' mem' w'/\Env.same nx ρ ρ'/\nx<=nx'/\Stp ρ mem w ρ' mem' w'/\Γ.le Γ'/\∀ b,Γ' b≠none->Γ b≠none\/Owned ρ mem b\/w.heap.size<=b
theorem OpOk.pure {P:Program}{N:Nat}{fr:Fr}{mem:Mem}{nx:Nat}{o:Oper}{sv:SV}
  (h:∀ Γ ρ w a,Inv Γ ρ nx mem w->FrDen Γ ρ nx N fr a->∃ v,(execOp a.eval o).run P w = .ok (.value v) w/\Den Γ ρ sv v/\sv.bd nx=true):OpOk P N fr mem nx o sv mem nx:=by
 intro Γ ρ w a hi hf
 obtain ⟨v,h1,h2,h3⟩:=h Γ ρ w a hi hf
 exact ⟨v,_,Γ,ρ,w,h1,.inl rfl,h2,h3,hi,Env.same_refl _ _,Nat.le_refl _,Stp.refl _ _ _,Gh.le_refl _,fun _ hb=>.inl hb⟩
abbrev R:=Option (SV×Mem×Nat×Prop)
theorem add_addr (b o n:Nat):(⟨b,o,none⟩ : Addr).add n=⟨b,o + n,none⟩:=by
 unfold Addr.add; split <;> simp_all
section
variable {P:Program} {T:Tab} {N:Nat} {fr:Fr} {mem:Mem} {nx:Nat} {o:Oper}
theorem ok_move {x:Operand}(ho:o.op = .move x\/o.op = .assign x):OpOk P N fr mem nx o (evo fr x) mem nx:=OpOk.pure fun Γ ρ w a _ hf=>by
 obtain ⟨h1,h2⟩:=evo_den hf x
 refine ⟨a.eval x,?_,h1,h2⟩
 rcases ho with ho | ho <;> simp [execOp,ho]
def xpick (fr:Fr)(mem:Mem)(nx:Nat)(c a b:Operand)(q:SV):R :=
 match q with
 | .bool r=>match evo fr c,evo fr a,evo fr b with
  | .bool c,.bool x,.bool y=>some (.bool r,mem,nx,(bif c then x else y)=r)
  | _,_,_=>none
 | _=>match evo fr c with
  | .bool true=>some (evo fr a,mem,nx,True)
  | .bool false=>some (evo fr b,mem,nx,True)
  | _=>none
theorem ok_pick {c a b:Operand}(ho:o.op = .pick c a b){q sv:SV}{mem':Mem}{nx':Nat}{k:Prop}(h:xpick fr mem nx c a b q=some (sv,mem',nx',k))(hk:k):OpOk P N fr mem nx o sv mem' nx':=by
 unfold xpick at h
 split at h
 ·rename_i r
  split at h
  ·rename_i c' x y hc hx hy
   simp only [Option.some.injEq,Prod.mk.injEq] at h
   obtain ⟨rfl,rfl,rfl,rfl⟩:=h
   refine OpOk.pure fun Γ ρ w act _ hf=>?_
   have h1:=(evo_den hf c).1; have h2:=(evo_den hf a).1; have h3:=(evo_den hf b).1
   rw [hc] at h1; rw [hx] at h2; rw [hy] at h3
   simp only [Den] at h1 h2 h3
   refine ⟨.bool r,?_,by simp only [Den],rfl⟩
   cases c' <;> simp_all [execOp,asBool]
  ·cases h
 ·split at h
  ·rename_i hc
   simp only [Option.some.injEq,Prod.mk.injEq] at h
   obtain ⟨rfl,rfl,rfl,rfl⟩:=h
   refine OpOk.pure fun Γ ρ w act _ hf=>?_
   have h1:=(evo_den hf c).1
   rw [hc] at h1; simp only [Den] at h1
   exact ⟨act.eval a,by simp [execOp,ho,h1,asBool],(evo_den hf a).1,(evo_den hf a).2⟩
  ·rename_i hc
   simp only [Option.some.injEq,Prod.mk.injEq] at h
   obtain ⟨rfl,rfl,rfl,rfl⟩:=h
   refine OpOk.pure fun Γ ρ w act _ hf=>?_
   have h1:=(evo_den hf c).1
   rw [hc] at h1; simp only [Den] at h1
   exact ⟨act.eval b,by simp [execOp,ho,h1,asBool],(evo_den hf b).1,(evo_den hf b).2⟩
  ·cases h
theorem ok_new {l:List SV}{E:Nat}(hrun:∀ Γ ρ w a,Inv Γ ρ nx mem w->FrDen Γ ρ nx N fr a->∃ cs:Array Value,(execOp a.eval o).run P w = .ok (.value (.pointer (some ⟨w.heap.size,0,none⟩))) (w.alloc (.cells cs E)) /\
  DenL Γ ρ l cs.toList/\(∀ c∈cs.toList,c.oneCell'=true)/\bdL nx l=true):OpOk P N fr mem nx o (.loc nx 0) ((nx,.cells l E) :: mem) (nx + 1):=by
 intro Γ ρ w a hi hf
 obtain ⟨cs,h1,h2,h3,h4⟩:=hrun Γ ρ w a hi hf
 refine ⟨_,_,Γ,ρ.add nx (some w.heap.size) none,_,h1,.inl rfl,?_,by simp [SV.bd],?_,Env.add_same _ _ _ _,Nat.le_succ _,Stp.alloc hi _ _ _,Gh.le_refl _,fun _ hb=>.inl hb⟩
 ·simp only [Den]; exact ⟨_,Env.add_blk _ _ _ _,rfl⟩
 ·refine hi.alloc _ none (.cells l E) ⟨w.heap.size,cs,Env.add_blk _ _ _ _,by rw [heap_alloc_new],?_,h3,?_⟩ (bdL_mono (Nat.le_succ _) l h4)
  ·exact DenL.ext (Gh.le_refl _) l _ (Env.add_same _ _ _ _) h4 h2
  ·cases hq:Γ w.heap.size with
   | none=>rfl
   | some cs'=>exact absurd (hi.lt hq) (Nat.lt_irrefl _)
def xbox (fr:Fr)(mem:Mem)(nx:Nat)(t:Nat)(x:Operand):R :=
 match cellsOf (evo fr x) with
 | some l=>some (.loc nx 0,(nx,.cells l t) :: mem,nx + 1,True)
 | none=>none
theorem ok_box {t:Nat}{x:Operand}(ho:o.op = .box t x){sv:SV}{mem':Mem}{nx':Nat}{k:Prop}(h:xbox fr mem nx t x=some (sv,mem',nx',k)):OpOk P N fr mem nx o sv mem' nx':=by
 unfold xbox at h
 split at h
 ·rename_i l hl
  simp only [Option.some.injEq,Prod.mk.injEq] at h
  obtain ⟨rfl,rfl,rfl,rfl⟩:=h
  refine ok_new fun Γ ρ w a hi hf=>?_
  obtain ⟨h1,h2⟩:=evo_den hf x
  obtain ⟨h3,h4,h5⟩:=cellsOf_den hl h1 h2
  exact ⟨(a.eval x).cells,by simp [execOp,ho,Instr.box,newVar,newRow],h3,h4,h5⟩
 ·cases h
theorem const_den {Γ:Gh}{ρ:Env}{n:Nat}{s:SV}{v:Value}(h:s.const=some v):Den Γ ρ s v/\v.oneCell'=true/\s.bd n=true/\s.single=true:=by
 cases s with
 | int k n=>simp only [SV.const,Option.some.injEq] at h; subst h; exact ⟨by simp only [Den],rfl,rfl,rfl⟩
 | bool b=>simp only [SV.const,Option.some.injEq] at h; subst h; exact ⟨by simp only [Den],rfl,rfl,rfl⟩
 | nils=>simp only [SV.const,Option.some.injEq] at h; subst h; exact ⟨by simp only [Den],rfl,rfl,rfl⟩
 | raw u =>
  simp only [SV.const] at h
  split at h
  ·rename_i hu; cases h; exact ⟨by simp only [Den]; exact ⟨trivial,hu⟩,hu,rfl,rfl⟩
  ·cases h
 | _=>simp [SV.const] at h
theorem consts_den {Γ:Gh}{ρ:Env}{n:Nat} : ∀ {l:List SV} {vs:List Value},vs.map some=l.map SV.const->DenL Γ ρ l vs/\(∀ c∈vs,c.oneCell'=true)/\bdL n l=true/\l.all SV.single=true
 | [],vs,h=>by simp at h; subst h; simp [DenL,bdL]
 | s :: l,[],h=>by simp at h
 | s :: l,v :: vs,h=>by
  simp only [List.map_cons,List.cons.injEq] at h
  obtain ⟨h1,h2,h3,h4⟩:=const_den (Γ:=Γ) (ρ:=ρ) (n:=n) h.1.symm
  obtain ⟨h5,h6,h7,h8⟩:=consts_den (Γ:=Γ) (ρ:=ρ) (n:=n) h.2
  refine ⟨by simp only [DenL]; exact ⟨v,vs,rfl,h1,h5⟩,?_,by simp [bdL,h3,h7],by simp [h4]; simpa using h8⟩
  intro c hc
  rcases List.mem_cons.1 hc with rfl | hc
  ·exact h2
  ·exact h6 c hc
def xalloc (T:Tab)(mem:Mem)(nx:Nat)(t:Nat):R :=
 match fnd T t with
 | some ti=>some (.loc nx 0,(nx,.cells ti.zero t) :: mem,nx + 1,True)
 | none=>none
theorem ok_alloc (hT:TabOk P T){t:Nat}(ho:o.op = .alloc t){sv:SV}{mem':Mem}{nx':Nat}{k:Prop}(h:xalloc T mem nx t=some (sv,mem',nx',k)):OpOk P N fr mem nx o sv mem' nx':=by
 unfold xalloc at h
 split at h
 ·rename_i ti hti
  simp only [Option.some.injEq,Prod.mk.injEq] at h
  obtain ⟨rfl,rfl,rfl,rfl⟩:=h
  refine ok_new fun Γ ρ w a hi hf=>?_
  obtain ⟨zv,h1,h2⟩:=(hT t ti hti).zeroValue
  obtain ⟨h3,h4,h5,_⟩:=consts_den (Γ:=Γ) (ρ:=ρ) (n:=nx) h2
  exact ⟨zv.cells,by simp [execOp,ho,Instr.alloc,h1,newVar,newRow],h3,h4,h5⟩
 ·cases h
theorem run_loadVar_at {t:Nat}{ti:TI}(ht:TIok P t ti){w:World}{b:Nat}{arr:Array Value}{E:Nat}{fz:Nat×Nat}(hb:w.heap[b]? = some (.cells arr E fz))(off:Nat) :
  (ti.agg=true->off + ti.cells<=arr.size->(loadVar t ⟨b,off,none⟩).run P w = .ok (.agg ((arr.toList.drop off).take ti.cells).toArray) w) /\
  (ti.agg=false->∀ v,arr.toList[off]? = some v->(loadVar t ⟨b,off,none⟩).run P w = .ok v w):=by
 constructor
 ·intro ha hl
  have hlen:((arr.toList.drop off).take ti.cells).length=ti.cells:=by simp; omega
  have:=run_loadCells_list (P:=P) w ⟨b,off,none⟩ ((arr.toList.drop off).take ti.cells) (fun j v hj=>by
   rw [add_addr,cell_of_row w b (off + j) arr E fz hb]
   have hjl:j<ti.cells:=by
    have:=List.getElem?_eq_some_iff.1 hj
    obtain ⟨h,_⟩:=this
    rw [hlen] at h; exact h
   rw [List.getElem?_take_of_lt hjl,List.getElem?_drop] at hj
   simpa using hj)
  rw [hlen] at this
  simp only [loadVar,Sem.run_bind,ht.isAgg,Result.andThen_ok,ha,if_true,ht.sizeOf,this,Sem.run_pure]
 ·intro ha v hv
  simp only [loadVar,Sem.run_bind,ht.isAgg,Result.andThen_ok,ha,Bool.false_eq_true,if_false,run_load]
  rw [cell_of_row w b off arr E fz hb]
  have:arr[off]? = some v:=by simpa using hv
  rw [this]
def xload (T:Tab)(fr:Fr)(mem:Mem)(nx:Nat)(t:Nat)(x:Operand)(q:SV):R :=
 match evo fr x,fnd T t with
 | .loc r off,some ti=>match fnd mem r with
  | some (.cells l _)=>match ti.agg with
   | true=>match Nat.ble (off + ti.cells) l.length with
    | true=>some (.agg ((l.drop off).take ti.cells),mem,nx,True)
    | false=>none
   | false=>match l[off]? with
    | some s=>some (s,mem,nx,True)
    | none=>none
  | _=>none
 | .elt s,some ti=>match ti.agg,s with
  | true,.agg l=>match Nat.beq ti.cells l.length with
   | true=>some (.agg l,mem,nx,True)
   | false=>none
  | false,s=>match s.single with
   | true=>some (s,mem,nx,True)
   | false=>none
  | _,_=>none
 | .relt r z i o,some ti=>match fnd mem r,ti.agg,o with
  | some (.row z' _ xs),true,0=>match q,Nat.beq z z',Nat.beq z ti.cells with
   | .agg l,true,true=>match Nat.beq l.length z with
    | true=>some (.agg l,mem,nx,xs[i]? = some (.agg l))
    | false=>none
   | _,_,_=>none
  | some (.row z' _ xs),false,0=>match Nat.beq z 1,Nat.beq z z',q.single,Nat.beq ti.cells 1 with
   | true,true,true,true=>some (q,mem,nx,xs[i]? = some q)
   | _,_,_,_=>none
  | _,_,_=>none
 | _,_=>none
theorem DenE.get {Γ:Gh}{z:Nat} : ∀ {xs:List SV} {cs:List Value} (i:Nat) {s:SV},DenE Γ z xs cs->xs[i]? = some s->∃ v,Den Γ Env.nil s v/\v.cells.size=z/\v.cells.toList=(cs.drop (i * z)).take z
 | [],_,i,s,_,hi=>by simp at hi
 | x :: xs,cs,0,s,h,hi=>by
  simp only [DenE] at h
  simp at hi; subst hi
  obtain ⟨⟨v,h1,h2,h3⟩,_⟩:=h
  exact ⟨v,h1,h2,by simpa using h3⟩
 | x :: xs,cs,i + 1,s,h,hi=>by
  simp only [DenE] at h
  simp at hi
  obtain ⟨v,h1,h2,h3⟩:=DenE.get i h.2 hi
  refine ⟨v,h1,h2,?_⟩
  rw [h3,List.drop_drop]
  congr 2
  rw [Nat.add_mul]; omega
theorem DenE.len {Γ:Gh}{z:Nat} : ∀ {xs:List SV} {cs:List Value},DenE Γ z xs cs->xs.length * z<=cs.length
 | [],_,_=>by simp
 | x :: xs,cs,h=>by
  simp only [DenE] at h
  obtain ⟨⟨v,_,h2,h3⟩,h4⟩:=h
  have h5:=DenE.len h4
  have h6:z<=cs.length:=by
   have:=congrArg List.length h3
   simp only [Array.length_toList,List.length_take,h2] at this
   omega
  simp only [List.length_cons,List.length_drop] at *
  rw [Nat.add_mul]; omega
mutual
theorem Den.ofNil {Γ:Gh}{ρ:Env} : ∀ (s:SV) (v:Value),Den Γ Env.nil s v->Den Γ ρ s v/\(∀ n,s≠.junk->s.bd n=true)
 | .int _ _,_,h=>⟨by simpa only [Den] using h,fun _ _=>rfl⟩
 | .bool _,_,h=>⟨by simpa only [Den] using h,fun _ _=>rfl⟩
 | .loc r o,v,h=>by simp only [Den,Env.nil] at h; obtain ⟨b,h,_⟩:=h; cases h
 | .agg l,v,h=>by
  simp only [Den] at *
  obtain ⟨vs,e,h⟩:=h
  exact ⟨⟨vs,e,(DenL.ofNil l _ h).1⟩,fun n _=>(DenL.ofNil (ρ:=ρ) l _ h).2 n⟩
 | .tup l,v,h=>by
  simp only [Den] at *
  obtain ⟨vs,e,h⟩:=h
  exact ⟨⟨vs,e,(DenL.ofNil l _ h).1⟩,fun n _=>(DenL.ofNil (ρ:=ρ) l _ h).2 n⟩
 | .fn f a c,v,h=>by
  simp only [Den] at *
  obtain ⟨va,vc,e,h1,h2⟩:=h
  exact ⟨⟨va,vc,e,(DenL.ofNil a _ h1).1,(DenL.ofNil c _ h2).1⟩,fun n _=>by simp [SV.bd,(DenL.ofNil (ρ:=ρ) a _ h1).2 n,(DenL.ofNil (ρ:=ρ) c _ h2).2 n]⟩
 | .nils,_,h=>⟨by simpa only [Den] using h,fun _ _=>rfl⟩
 | .sl x z xs,v,h=>⟨by simpa only [Den] using h,fun _ _=>rfl⟩
 | .own r,v,h=>by simp only [Den,Env.nil] at h; exact absurd h.1 (by simp)
 | .relt _ _ _ _,v,h=>by simp only [Den,Env.nil] at h; obtain ⟨b,h,_⟩:=h; cases h
 | .osub _ _ _ _,v,h=>by simp only [Den,Env.nil] at h; obtain ⟨b,_,_,h,_⟩:=h; cases h
 | .elt s,v,h=>⟨by simpa only [Den] using h,fun _ _=>rfl⟩
 | .raw _,_,h=>⟨by simpa only [Den] using h,fun _ _=>rfl⟩
 | .any,_,h=>⟨by simpa only [Den] using h,fun _ _=>rfl⟩
 | .junk,_,_=>⟨by simp only [Den],fun _ h=>absurd rfl h⟩
theorem DenL.ofNil {Γ:Gh}{ρ:Env} : ∀ (l:List SV) (vs:List Value),DenL Γ Env.nil l vs->DenL Γ ρ l vs/\∀ n,bdL n l=true
 | [],_,h=>⟨by simpa only [DenL] using h,fun _=>rfl⟩
 | s :: l,vs,h=>by
  simp only [DenL] at *
  obtain ⟨v,r,e,h1,h2⟩:=h
  refine ⟨⟨v,r,e,(Den.ofNil s v h1).1,(DenL.ofNil l r h2).1⟩,fun n=>?_⟩
  have hs:s.bd n=true:=by
   by_cases hj:s = .junk
   ·subst hj; rfl
   ·exact (Den.ofNil (ρ:=ρ) s v h1).2 n hj
  simp [bdL,hs,(DenL.ofNil (ρ:=ρ) l r h2).2 n]
end
theorem Den.nil_bd {Γ:Gh}{s:SV}{v:Value}(h:Den Γ Env.nil s v)(n:Nat):s.bd n=true:=by
 by_cases hj:s = .junk
 ·subst hj; rfl
 ·exact (Den.ofNil (ρ:=Env.nil) s v h).2 n hj
theorem ok_load (hT:TabOk P T){t:Nat}{x:Operand}(ho:o.op = .load t x){q sv:SV}{mem':Mem}{nx':Nat}{k:Prop}(h:xload T fr mem nx t x q=some (sv,mem',nx',k))(hk:k):OpOk P N fr mem nx o sv mem' nx':=by
 unfold xload at h
 split at h
 ·rename_i r off ti hx hti
  split at h
  ·rename_i l E hl
   split at h
   ·rename_i ha
    split at h
    ·rename_i hle
     simp only [Option.some.injEq,Prod.mk.injEq] at h
     obtain ⟨rfl,rfl,rfl,rfl⟩:=h
     refine OpOk.pure fun Γ ρ w a hi hf=>?_
     have h1:=(evo_den hf x).1
     rw [hx] at h1; simp only [Den] at h1
     obtain ⟨b,hb,hv⟩:=h1
     obtain ⟨⟨b',arr,h3,h4,h5,_⟩,_,h7⟩:=hi.priv r _ hl
     rw [hb] at h3; cases h3
     have hlen:=h5.length
     have hle':off + ti.cells<=arr.size:=by
      have:off + ti.cells<=l.length:=Nat.le_of_ble_eq_true hle
      simp at hlen; omega
     refine ⟨.agg ((arr.toList.drop off).take ti.cells).toArray,by simp only [execOp,ho,Instr.loadAt,Instr.sureAddr,hv,Sem.run_bind,Sem.run_pure,Result.andThen_ok,(run_loadVar_at (hT t ti hti) h4 off).1 ha hle'],?_,?_⟩
     ·simp only [Den]; exact ⟨_,rfl,by simpa using (h5.drop off).take ti.cells⟩
     ·exact bdL_take _ (bdL_drop _ h7)
    ·cases h
   ·rename_i ha
    split at h
    ·rename_i s hs
     simp only [Option.some.injEq,Prod.mk.injEq] at h
     obtain ⟨rfl,rfl,rfl,rfl⟩:=h
     refine OpOk.pure fun Γ ρ w a hi hf=>?_
     have h1:=(evo_den hf x).1
     rw [hx] at h1; simp only [Den] at h1
     obtain ⟨b,hb,hv⟩:=h1
     obtain ⟨⟨b',arr,h3,h4,h5,_⟩,_,h7⟩:=hi.priv r _ hl
     rw [hb] at h3; cases h3
     obtain ⟨v,hv1,hv2⟩:=h5.get off hs
     exact ⟨v,by simp only [execOp,ho,Instr.loadAt,Instr.sureAddr,hv,Sem.run_bind,Sem.run_pure,Result.andThen_ok,(run_loadVar_at (hT t ti hti) h4 off).2 ha v hv1],hv2,bdL_get off h7 hs⟩
    ·cases h
  ·cases h
 ·rename_i s ti hx hti
  have key:∀ (Γ:Gh) (ρ:Env) (w:World) (a:Act),Inv Γ ρ nx mem w->FrDen Γ ρ nx N fr a->∃ (b off:Nat) (cs:List Value) (u:Value) (E:Nat) (fz:Nat×Nat),a.eval x = .pointer (some ⟨b,off,none⟩)/\w.heap[b]? = some (.cells cs.toArray E fz)/\Den Γ Env.nil s u/\off + u.cells.size<=cs.length/\u.cells.toList=(cs.drop off).take u.cells.size:=by
   intro Γ ρ w a hi hf
   have h1:=(evo_den hf x).1
   rw [hx] at h1; simp only [Den] at h1
   obtain ⟨b,off,cs,u,h2,h3,h4,h5,h6⟩:=h1
   obtain ⟨E,fz,h7⟩:=hi.pub b cs h3
   exact ⟨b,off,cs,u,E,fz,h2,h7,h4,h5,h6⟩
  split at h
  ·rename_i l ha
   split at h
   ·rename_i hle
    simp only [Option.some.injEq,Prod.mk.injEq] at h
    obtain ⟨rfl,rfl,rfl,rfl⟩:=h
    refine OpOk.pure fun Γ ρ w a hi hf=>?_
    obtain ⟨b,off,cs,u,E,fz,h2,h3,h4,h5,h6⟩:=key Γ ρ w a hi hf
    have hcell:ti.cells=l.length:=Nat.eq_of_beq_eq_true hle
    have h4':=h4
    simp only [Den] at h4'
    obtain ⟨vs,rfl,h7⟩:=h4'
    have hlen:=h7.length
    simp only [Array.length_toList] at hlen
    have hsz:(Value.agg vs).cells.size=ti.cells:=by simp [Value.cells,hlen,hcell]
    rw [hsz] at h5 h6
    refine ⟨.agg vs,?_,(Den.ofNil _ _ h4).1,h4.nil_bd nx⟩
    simp only [execOp,ho,Instr.loadAt,Instr.sureAddr,h2,Sem.run_bind,Sem.run_pure,Result.andThen_ok,(run_loadVar_at (hT t ti hti) h3 off).1 ha (by simpa using h5)]
    congr 2
    have:vs.toList=(cs.drop off).take ti.cells:=h6
    rw [show (cs.toArray.toList.drop off).take ti.cells=(cs.drop off).take ti.cells from by simp,<- this]
   ·cases h
  ·rename_i ha
   split at h
   ·rename_i hs
    simp only [Option.some.injEq,Prod.mk.injEq] at h
    obtain ⟨rfl,rfl,rfl,rfl⟩:=h
    refine OpOk.pure fun Γ ρ w a hi hf=>?_
    obtain ⟨b,off,cs,u,E,fz,h2,h3,h4,h5,h6⟩:=key Γ ρ w a hi hf
    have h1:=h4.single hs
    rw [cells_of_one h1] at h5 h6
    refine ⟨u,?_,(Den.ofNil _ _ h4).1,h4.nil_bd nx⟩
    have hv:cs.toArray.toList[off]? = some u:=by
     have:(cs.drop off).take 1=[u]:=by simpa using h6.symm
     have h0:((cs.drop off).take 1)[0]? = some u:=by rw [this]; rfl
     rw [List.getElem?_take_of_lt om,List.getElem?_drop] at h0
     simpa using h0
    simp only [execOp,ho,Instr.loadAt,Instr.sureAddr,h2,Sem.run_bind,Sem.run_pure,Result.andThen_ok,(run_loadVar_at (hT t ti hti) h3 off).2 ha u hv]
   ·cases h
  ·cases h
 ·rename_i r z i oo ti hx hti
  have key:∀ (z' E:Nat) (xs:List SV) (s:SV),fnd mem r=some (.row z' E xs)->z=z'->oo=0->xs[i]? = some s->∀ (Γ:Gh) (ρ:Env) (w:World) (a:Act),Inv Γ ρ nx mem w->FrDen Γ ρ nx N fr a ->
    ∃ (b:Nat) (arr:Array Value) (u:Value),a.eval x = .pointer (some ⟨b,i * z,none⟩)/\w.heap[b]? = some (.cells arr E (0,0))/\Den Γ Env.nil s u/\u.cells.size=z/\u.cells.toList=(arr.toList.drop (i * z)).take z/\i * z + z<=arr.size:=by
   intro z' E xs s hm hz ho' hs Γ ρ w a hi hf
   subst hz ho'
   have h1:=(evo_den hf x).1
   rw [hx] at h1; simp only [Den] at h1
   obtain ⟨b,hb,hv⟩:=h1
   obtain ⟨⟨v,hv1,h2⟩,_,_⟩:=hi.priv r _ hm
   rcases h2 with ⟨_,h2,_⟩ | ⟨b',arr,cap,h2,h3,h4,h5,h6,h7,_⟩
   ·subst h2; simp at hs
   ·rw [hb] at h2; cases h2
    obtain ⟨u,hu1,hu2,hu3⟩:=h7.get i hs
    refine ⟨b,arr,u,by simpa using hv,h4,hu1,hu2,hu3,?_⟩
    have:=congrArg List.length hu3
    simp only [Array.length_toList,List.length_take,List.length_drop,hu2] at this
    have hlen:=h7.len
    have hi':i<xs.length:=(List.getElem?_eq_some_iff.1 hs).1
    have:(i + 1) * z<=xs.length * z:=Nat.mul_le_mul_right _ hi'
    rw [Nat.add_mul] at this
    simp at hlen
    omega
  split at h
  ·rename_i z' E xs hm ha
   split at h
   ·rename_i l hz hzc
    split at h
    ·rename_i hlz
     simp only [Option.some.injEq,Prod.mk.injEq] at h
     obtain ⟨rfl,rfl,rfl,rfl⟩:=h
     refine OpOk.pure fun Γ ρ w a hi hf=>?_
     obtain ⟨b,arr,u,h2,h3,h4,h5,h6,h7⟩:=key z' E xs _ hm (Nat.eq_of_beq_eq_true hz) rfl hk Γ ρ w a hi hf
     have hzt:z=ti.cells:=Nat.eq_of_beq_eq_true hzc
     refine ⟨u,?_,(Den.ofNil _ _ h4).1,h4.nil_bd nx⟩
     simp only [execOp,ho,Instr.loadAt,Instr.sureAddr,h2,Sem.run_bind,Sem.run_pure,Result.andThen_ok,(run_loadVar_at (hT t ti hti) h3 (i * z)).1 ha om]
     simp only [Den] at h4
     obtain ⟨vs,rfl,_⟩:=h4
     congr 2
     rw [<- hzt,<- h6]
     simp [Value.cells]
    ·cases h
   ·cases h
  ·rename_i z' E xs hm ha
   split at h
   ·rename_i hz1 hz hs hc
    simp only [Option.some.injEq,Prod.mk.injEq] at h
    obtain ⟨rfl,rfl,rfl,rfl⟩:=h
    refine OpOk.pure fun Γ ρ w a hi hf=>?_
    obtain ⟨b,arr,u,h2,h3,h4,h5,h6,h7⟩:=key z' E xs _ hm (Nat.eq_of_beq_eq_true hz) rfl hk Γ ρ w a hi hf
    have h1:=h4.single hs
    have hz1':z=1:=Nat.eq_of_beq_eq_true hz1
    rw [cells_of_one h1,hz1'] at h6
    refine ⟨u,?_,(Den.ofNil _ _ h4).1,h4.nil_bd nx⟩
    have hv:arr.toList[i * z]? = some u:=by
     have h0:((arr.toList.drop (i * 1)).take 1)[0]? = some u:=by rw [<- h6]; rfl
     rw [List.getElem?_take_of_lt om,List.getElem?_drop] at h0
     rw [hz1']; simpa using h0
    simp only [execOp,ho,Instr.loadAt,Instr.sureAddr,h2,Sem.run_bind,Sem.run_pure,Result.andThen_ok,(run_loadVar_at (hT t ti hti) h3 (i * z)).2 ha u hv]
   ·cases h
  ·cases h
 ·cases h
end
def splice (l:List SV)(off:Nat)(n:List SV):List SV:=l.take off++n++l.drop (off + n.length)
theorem spliceDen {Γ:Gh}{ρ:Env}{l n:List SV}{vs ns:List Value}(off:Nat)(h:DenL Γ ρ l vs)(hn:DenL Γ ρ n ns):DenL Γ ρ (splice l off n) (vs.take off++ns++vs.drop (off + ns.length)):=by
 unfold splice
 rw [hn.length]
 exact ((h.take off).append hn).append (h.drop _)
theorem spliceBd {k:Nat}{l n:List SV}(off:Nat)(h:bdL k l=true)(hn:bdL k n=true):bdL k (splice l off n)=true :=
 bdL_append (bdL_append (bdL_take _ h) hn) (bdL_drop _ h)
theorem Inv.set {Γ:Gh}{ρ:Env}{nx:Nat}{mem:Mem}{w:World}(h:Inv Γ ρ nx mem w){r:Nat}{B B':Blk}(hr:fnd mem r=some B){b:Nat}(hb:ρ.blk r=some b)(hΓ:Γ b=none)(w':World)
  (hother:∀ k,k≠b->w'.heap[k]? = w.heap[k]?) (hB:BlkOk Γ ρ w' r B') (hbd:B'.bd nx=true):Inv Γ ρ nx (upd mem r B') w' where
 pub c cs hc:=by
  obtain ⟨E,fz,e⟩:=h.pub c cs hc
  exact ⟨E,fz,by rw [hother c (fun e=>by subst e; rw [hΓ] at hc; cases hc),e]⟩
 priv r' C hC:=by
  rw [fnd_upd _ _ _ _ (by simp [hr])] at hC
  split at hC
  ·rename_i e; subst e; cases hC
   exact ⟨hB,(h.priv r' B hr).2.1,hbd⟩
  ·rename_i e
   obtain ⟨h1,h2,h3⟩:=h.priv r' C hC
   exact ⟨h1.move (Gh.le_refl _) (Env.same_refl nx ρ) h2 h3 (fun c hc=>⟨hother c (fun e'=>e (h.inj r' r b C B hC hr (e' ▸ hc) hb)),id⟩),h2,h3⟩
 inj r1 r2 c C C' hC hC' hc hc':=by
  have aux:∀ r' D,fnd (upd mem r B') r'=some D->∃ D',fnd mem r'=some D':=fun r' D hD=>by
   rw [fnd_upd _ _ _ _ (by simp [hr])] at hD
   split at hD
   ·rename_i e; subst e; exact ⟨B,hr⟩
   ·exact ⟨D,hD⟩
  obtain ⟨D,hD⟩:=aux r1 C hC
  obtain ⟨D',hD'⟩:=aux r2 C' hC'
  exact h.inj r1 r2 c D D' hD hD' hc hc'
theorem Stp.set {ρ:Env}{mem:Mem}{w w':World}{r:Nat}{B:Blk}(B':Blk)(hr:fnd mem r=some B){b:Nat}(hb:ρ.blk r=some b)(hos:w'.os=w.os)(ht:w'.tape=w.tape)(ho:w'.output=w.output)(hs:w'.heap.size=w.heap.size)
  (hother:∀ k,k≠b->w'.heap[k]? = w.heap[k]?):Stp ρ mem w ρ (upd mem r B') w' where
 os:=hos
 tape:=ht
 output:=ho
 size:=om
 keep c _ hc:=hother c (fun e=>hc ⟨r,B,hr,e ▸ hb⟩)
 own c:=by
  rintro ⟨r',C,hC,hc⟩
  rw [fnd_upd _ _ _ _ (by simp [hr])] at hC
  split at hC
  ·rename_i e; subst e; exact .inl ⟨r',B,hr,hc⟩
  ·exact .inl ⟨r',C,hC,hc⟩
section
variable {P:Program} {T:Tab} {N:Nat} {fr:Fr} {mem:Mem} {nx:Nat} {o:Oper}
def xstore (T:Tab)(fr:Fr)(mem:Mem)(nx:Nat)(t:Nat)(x v:Operand):R :=
 match evo fr x,fnd T t,cellsOf (evo fr v) with
 | .loc r off,some ti,some n=>match fnd mem r,Nat.beq n.length ti.cells with
  | some (.cells l E),true=>match Nat.ble (off + n.length) l.length with
   | true=>some (.junk,upd mem r (.cells (splice l off n) E),nx,True)
   | false=>none
  | _,_=>none
 | .relt r z i 0,some ti,some n=>match fnd mem r,Nat.beq n.length ti.cells,(evo fr v).bd 0 with
  | some (.row z' E xs),true,true=>match Nat.beq z z',Nat.beq z ti.cells with
   | true,true=>some (.junk,upd mem r (.row z' E (xs.set i (evo fr v))),nx,i<xs.length)
   | _,_=>none
  | _,_,_=>none
 | _,_,_=>none
theorem run_storeVar_at {t:Nat}{ti:TI}(ht:TIok P t ti){w:World}{b:Nat}{arr:Array Value}{E:Nat}(hb:w.heap[b]? = some (.cells arr E (0,0)))(off:Nat)(v:Value)(hv:v.cells.size=ti.cells)
  (hle:off + v.cells.size<=arr.size) (h1:∀ c∈v.cells.toList,c.oneCell'=true) :
  (storeVar t ⟨b,off,none⟩ v).run P w = .ok () (w.setRow b (arr.toList.take off++v.cells.toList++arr.toList.drop (off + v.cells.toList.length)).toArray):=by
 simp only [storeVar,Sem.run_bind,ht.sizeOf,Result.andThen_ok,hv,ne_eq,not_true_eq_false,if_false]
 have:=run_storeCells_at (P:=P) b off E v.cells.toList 0 arr w hb (by simpa using hle) h1
 simpa using this
theorem Den.ofBd0 {Γ:Gh}{ρ ρ':Env}{s:SV}{v:Value}(h:Den Γ ρ s v)(hb:s.bd 0=true):Den Γ ρ' s v :=
 Den.ext (Gh.le_refl _) (n:=0) s v (fun r hr=>absurd hr (Nat.not_lt_zero r)) hb h
theorem DenE.set {Γ:Gh}{z:Nat} : ∀ {xs:List SV} {cs:List Value} (i:Nat) {s:SV} {v:Value},DenE Γ z xs cs->i<xs.length->Den Γ Env.nil s v->v.cells.size=z ->
  DenE Γ z (xs.set i s) (cs.take (i * z)++v.cells.toList++cs.drop (i * z + z))
 | [],_,i,s,v,_,hi,_,_=>by simp at hi
 | x :: xs,cs,0,s,v,h,_,hv,hz=>by
  simp only [DenE] at h
  simp only [List.set_cons_zero,DenE,Nat.zero_mul,List.take_zero,List.nil_append,Nat.zero_add]
  have hl:v.cells.toList.length=z:=by simpa using hz
  refine ⟨⟨v,hv,hz,by rw [List.take_append_of_le_length om,List.take_of_length_le om]⟩,?_⟩
  rw [List.drop_append_of_le_length om,List.drop_of_length_le om]
  simpa using h.2
 | x :: xs,cs,i + 1,s,v,h,hi,hv,hz=>by
  have hlen:=h.len
  simp only [DenE] at h
  obtain ⟨⟨u,h1,h2,h3⟩,h4⟩:=h
  simp only [List.length_cons] at hi hlen
  have hle:z<=cs.length:=by
   have:=congrArg List.length h3
   simp only [Array.length_toList,List.length_take,h2] at this
   omega
  have ih:=DenE.set i h4 om hv hz
  simp only [List.set_cons_succ,DenE]
  have e1:(i + 1) * z=z + i * z:=by rw [Nat.add_mul]; omega
  refine ⟨⟨u,h1,h2,?_⟩,?_⟩
  ·rw [h3,List.append_assoc,List.take_append_of_le_length (by simp; omega),List.take_take,e1,Nat.min_eq_left om]
  ·rw [e1]
   have:cs.take (z + i * z)=cs.take z++(cs.drop z).take (i * z):=by rw [List.take_add]
   rw [this,List.append_assoc,List.append_assoc,List.drop_append_of_le_length (by simp; omega),List.drop_of_length_le (by simp; omega),List.nil_append]
   rw [List.drop_drop] at ih
   rw [<- List.append_assoc]
   have e2:z + i * z + z=z + (i * z + z):=om
   rw [e2]; exact ih
theorem ok_store (hT:TabOk P T){t:Nat}{x v:Operand}(ho:o.op = .store t x v){sv:SV}{mem':Mem}{nx':Nat}{k:Prop}(h:xstore T fr mem nx t x v=some (sv,mem',nx',k))(hk:k):OpOk P N fr mem nx o sv mem' nx':=by
 unfold xstore at h
 split at h
 ·rename_i r off ti n hx hti hn
  split at h
  ·rename_i l E hl hc
   split at h
   ·rename_i hle
    simp only [Option.some.injEq,Prod.mk.injEq] at h
    obtain ⟨rfl,rfl,rfl,rfl⟩:=h
    intro Γ ρ w a hi hf
    have h1:=(evo_den hf x).1
    rw [hx] at h1; simp only [Den] at h1
    obtain ⟨b,hb,hv⟩:=h1
    obtain ⟨h2,h2'⟩:=evo_den hf v
    obtain ⟨h3,h4,h5⟩:=cellsOf_den hn h2 h2'
    obtain ⟨⟨b',arr,g1,g2,g3,g4,g5⟩,_,g7⟩:=hi.priv r _ hl
    rw [hb] at g1; cases g1
    have hlen:=g3.length
    have hnl:=h3.length
    have hcell:n.length=ti.cells:=Nat.eq_of_beq_eq_true hc
    have hle':off + n.length<=l.length:=Nat.le_of_ble_eq_true hle
    simp only [Array.length_toList] at hlen hnl
    have hrun:=run_storeVar_at (hT t ti hti) g2 off (a.eval v) om om h4
    refine ⟨undef,.skip,Γ,ρ,w.setRow b (arr.toList.take off++(a.eval v).cells.toList++arr.toList.drop (off + (a.eval v).cells.toList.length)).toArray,?_,.inr ⟨rfl,rfl⟩,by simp only [Den],rfl,?_,Env.same_refl _ _,Nat.le_refl _,?_,Gh.le_refl _,fun _ hb=>.inl hb⟩
    ·simp only [execOp,ho,Instr.storeAt,Instr.sureAddr,hv,Sem.run_bind,Sem.run_pure,Result.andThen_ok,hrun]
    ·refine hi.set hl hb g5 _ (fun k hk=>setRow_other w b k _ hk) ⟨b,_,hb,setRow_heap w b arr _ E _ g2,?_,?_,g5⟩ (spliceBd off g7 h5)
     ·simpa using spliceDen off g3 h3
     ·intro c hc
      simp only [List.mem_append] at hc
      rcases hc with (hc | hc) | hc
      ·exact g4 c (List.mem_of_mem_take hc)
      ·exact h4 c hc
      ·exact g4 c (List.mem_of_mem_drop hc)
    ·exact Stp.set _ hl hb rfl rfl rfl (by simp) (fun k hk=>setRow_other w b k _ hk)
   ·cases h
  ·cases h
 ·rename_i r z i ti n hx hti hn
  split at h
  ·rename_i z' E xs hl hc hbd
   split at h
   ·rename_i hz hzc
    simp only [Option.some.injEq,Prod.mk.injEq] at h
    obtain ⟨rfl,rfl,rfl,rfl⟩:=h
    have hz:z=z':=Nat.eq_of_beq_eq_true hz
    subst hz
    have hzc:z=ti.cells:=Nat.eq_of_beq_eq_true hzc
    intro Γ ρ w a hi hf
    have h1:=(evo_den hf x).1
    rw [hx] at h1; simp only [Den] at h1
    obtain ⟨b,hb,hv⟩:=h1
    obtain ⟨h2,h2'⟩:=evo_den hf v
    obtain ⟨h3,h4,h5⟩:=cellsOf_den hn h2 h2'
    obtain ⟨⟨vv,hvv,g⟩,_,_⟩:=hi.priv r _ hl
    rcases g with ⟨_,g,_⟩ | ⟨b',arr,cap,g1,g2,g3,g4,g5,g6,g7,g8⟩
    ·subst g; simp at hk
    rw [hb] at g1; cases g1
    have hnl:=h3.length
    have hcell:n.length=ti.cells:=Nat.eq_of_beq_eq_true hc
    simp only [Array.length_toList] at hnl
    have hsz:(a.eval v).cells.size=z:=om
    have hmul:i * z + z<=xs.length * z:=by
     have:(i + 1) * z<=xs.length * z:=Nat.mul_le_mul_right _ hk
     rw [Nat.add_mul] at this; omega
    have hcap:xs.length * z<=arr.size:=by rw [g5]; exact Nat.mul_le_mul_right _ g4
    have hrun:=run_storeVar_at (hT t ti hti) g3 (i * z) (a.eval v) om om h4
    have hvn:Den Γ Env.nil (evo fr v) (a.eval v):=h2.ofBd0 hbd
    refine ⟨undef,.skip,Γ,ρ,w.setRow b (arr.toList.take (i * z)++(a.eval v).cells.toList++arr.toList.drop (i * z + (a.eval v).cells.toList.length)).toArray,?_,.inr ⟨rfl,rfl⟩,by simp only [Den],rfl,?_,Env.same_refl _ _,Nat.le_refl _,?_,Gh.le_refl _,fun _ hb=>.inl hb⟩
    ·simp only [execOp,ho,Instr.storeAt,Instr.sureAddr,hv,Sem.run_bind,Sem.run_pure,Result.andThen_ok,Nat.add_zero,hrun]
    ·have hszl:(a.eval v).cells.toList.length=z:=by simpa using hsz
     refine hi.set hl hb g8 _ (fun k hk=>setRow_other w b k _ hk) ⟨vv,hvv,.inr ⟨b,_,cap,hb,by simpa using g2,setRow_heap w b arr _ E _ g3,by simpa using g4,?_,?_,?_,g8⟩⟩ rfl
     ·simp [hsz]; omega
     ·rw [hszl]
      simpa using DenE.set i g6 hk hvn hsz
     ·intro c hc
      simp only [List.mem_append] at hc
      rcases hc with (hc | hc) | hc
      ·exact g7 c (List.mem_of_mem_take hc)
      ·exact h4 c hc
      ·exact g7 c (List.mem_of_mem_drop hc)
    ·exact Stp.set _ hl hb rfl rfl rfl (by simp) (fun k hk=>setRow_other w b k _ hk)
   ·cases h
  ·cases h
 ·cases h
def xfieldAddr (T:Tab)(fr:Fr)(mem:Mem)(nx:Nat)(s:Nat)(x:Operand)(f:Nat):R :=
 match fnd T s with
 | some ti=>match ti.d with
  | .struct fs=>match fs[f]? with
   | some (off,ft)=>match fnd T ft with
    | some fi=>match Nat.beq fi.cells 0 with
     | true=>none
     | false=>match evo fr x with
      | .loc r o=>some (.loc r (o + off),mem,nx,True)
      | .relt r z i o=>some (.relt r z i (o + off),mem,nx,True)
      | .elt (.agg l)=>match fi.agg with
       | true=>match Nat.ble (off + fi.cells) l.length,l.all SV.single with
        | true,true=>some (.elt (.agg ((l.drop off).take fi.cells)),mem,nx,True)
        | _,_=>none
       | false=>match l[off]?,l.all SV.single with
        | some s,true=>some (.elt s,mem,nx,True)
        | _,_=>none
      | _=>none
    | none=>none
   | none=>none
  | _=>none
 | none=>none
theorem run_fieldAt (hT:TabOk P T){s:Nat}{ti:TI}{fs:List (Nat×Nat)}{f off ft:Nat}{fi:TI}(hs:fnd T s=some ti)(hd:ti.d = .struct fs)(hf:fs[f]? = some (off,ft))(hft:fnd T ft=some fi)(h0:Nat.beq fi.cells 0=false)
  (w:World) (a:Addr):(Instr.fieldAt s (.pointer (some a)) f).run P w = .ok (.pointer (some (a.add off))) w:=by
 have hdesc:=(hT s ti hs).desc
 rw [hd] at hdesc
 simp only [DescOk] at hdesc
 cases hu:P.underlying s with
 | none=>simp [hu] at hdesc
 | some d =>
  rw [hu] at hdesc
  cases d with
  | struct fa =>
   simp only [Option.bind_some,structFs,Option.some.injEq] at hdesc
   subst hdesc
   rw [List.getElem?_map] at hf
   cases hq:fa.toList[f]? with
   | none=>simp [hq] at hf
   | some fd =>
    simp [hq] at hf
    obtain ⟨rfl,rfl⟩:=hf
    have hq':fa[f]? = some fd:=by simpa using hq
    have hne:fi.cells≠0:=fun e=>by rw [e] at h0; simp at h0
    simp [Instr.fieldAt,run_underlying hu,hq',Instr.sureAddr,fieldPlace,(hT _ fi hft).sizeOf,hne]
  | _=>simp [structFs] at hdesc
theorem elt_part {Γ:Gh}{l m:List SV}{n k:Nat}{u:Value}{cs:List Value}{off:Nat}(hs:Den Γ Env.nil (.agg l) u)(hle:off + u.cells.size<=cs.length)(hu:u.cells.toList=(cs.drop off).take u.cells.size)
  (hm:m=(l.drop n).take k) (hk:n + k<=l.length):∃ vs:List Value,DenL Γ Env.nil m vs/\vs=(cs.drop (off + n)).take k/\vs.length=k/\off + n + k<=cs.length:=by
 simp only [Den] at hs
 obtain ⟨ws,rfl,h⟩:=hs
 have hlen:=h.length
 subst hm
 simp only [Value.cells,Array.length_toList] at hle hu hlen
 refine ⟨(ws.toList.drop n).take k,(h.drop n).take k,?_,by simp; omega,om⟩
 rw [hu,List.drop_take,List.drop_drop,List.take_take,Nat.min_eq_left om]
theorem ok_fieldAddr (hT:TabOk P T){s:Nat}{x:Operand}{f:Nat}(ho:o.op = .fieldAddr s x f){sv:SV}{mem':Mem}{nx':Nat}{k:Prop}(h:xfieldAddr T fr mem nx s x f=some (sv,mem',nx',k)):OpOk P N fr mem nx o sv mem' nx':=by
 unfold xfieldAddr at h
 split at h
 ·rename_i ti hti
  split at h
  ·rename_i fs hd
   split at h
   ·rename_i off ft hf
    split at h
    ·rename_i fi hfi
     split at h
     ·cases h
     ·rename_i h0
      have hrun:=run_fieldAt hT hti hd hf hfi h0
      split at h
      ·rename_i r oo hx
       simp only [Option.some.injEq,Prod.mk.injEq] at h
       obtain ⟨rfl,rfl,rfl,rfl⟩:=h
       refine OpOk.pure fun Γ ρ w a hi hff=>?_
       obtain ⟨h1,h1'⟩:=evo_den hff x
       rw [hx] at h1 h1'; simp only [Den] at h1
       obtain ⟨b,hb,hv⟩:=h1
       exact ⟨_,by simp only [execOp,ho,hv,Sem.run_bind,hrun,Result.andThen_ok,Sem.run_pure,add_addr]; rfl,by simp only [Den]; exact ⟨b,hb,rfl⟩,h1'⟩
      ·rename_i r z i oo hx
       simp only [Option.some.injEq,Prod.mk.injEq] at h
       obtain ⟨rfl,rfl,rfl,rfl⟩:=h
       refine OpOk.pure fun Γ ρ w a hi hff=>?_
       obtain ⟨h1,h1'⟩:=evo_den hff x
       rw [hx] at h1 h1'; simp only [Den] at h1
       obtain ⟨b,hb,hv⟩:=h1
       exact ⟨_,by simp only [execOp,ho,hv,Sem.run_bind,hrun,Result.andThen_ok,Sem.run_pure,add_addr]; rfl,by simp only [Den]; exact ⟨b,hb,by rw [Nat.add_assoc]⟩,h1'⟩
      ·rename_i l hx
       split at h
       ·rename_i ha
        split at h
        ·rename_i hle hall
         simp only [Option.some.injEq,Prod.mk.injEq] at h
         obtain ⟨rfl,rfl,rfl,rfl⟩:=h
         refine OpOk.pure fun Γ ρ w a hi hff=>?_
         obtain ⟨h1,h1'⟩:=evo_den hff x
         rw [hx] at h1; simp only [Den] at h1
         obtain ⟨b,o1,cs,u,hv,hb,hu,hle',hcs⟩:=h1
         obtain ⟨vs,e1,e2,e3,e4⟩:=elt_part (n:=off) (k:=fi.cells) (by simp only [Den]; exact hu) hle' hcs rfl (Nat.le_of_ble_eq_true hle)
         refine ⟨_,by simp only [execOp,ho,hv,Sem.run_bind,hrun,Result.andThen_ok,Sem.run_pure,add_addr]; rfl,?_,rfl⟩
         simp only [Den]
         refine ⟨b,o1 + off,cs,.agg vs.toArray,rfl,hb,⟨vs.toArray,rfl,by simpa using e1⟩,?_,?_⟩
         ·simp [Value.cells,e3]; omega
         ·simp [Value.cells,e2]
        ·cases h
       ·split at h
        ·rename_i s1 hs1 hall
         simp only [Option.some.injEq,Prod.mk.injEq] at h
         obtain ⟨rfl,rfl,rfl,rfl⟩:=h
         refine OpOk.pure fun Γ ρ w a hi hff=>?_
         obtain ⟨h1,h1'⟩:=evo_den hff x
         rw [hx] at h1; simp only [Den] at h1
         obtain ⟨b,o1,cs,u,hv,hb,hu,hle',hcs⟩:=h1
         have hofl:off<l.length:=(List.getElem?_eq_some_iff.1 hs1).1
         obtain ⟨vs,e1,e2,e3,e4⟩:=elt_part (n:=off) (k:=1) (by simp only [Den]; exact hu) hle' hcs rfl om
         have hm:(l.drop off).take 1=[s1]:=by
          rw [List.drop_eq_getElem_cons hofl,List.take_succ_cons,List.take_zero]
          rw [(List.getElem?_eq_some_iff.1 hs1).2]
         rw [hm] at e1
         simp only [DenL] at e1
         obtain ⟨u1,r1,rfl,e5,rfl⟩:=e1
         have hsing:s1.single=true:=List.all_eq_true.1 hall s1 (List.mem_of_getElem? hs1)
         have hone:=e5.single hsing
         refine ⟨_,by simp only [execOp,ho,hv,Sem.run_bind,hrun,Result.andThen_ok,Sem.run_pure,add_addr]; rfl,?_,rfl⟩
         simp only [Den]
         refine ⟨b,o1 + off,cs,u1,rfl,hb,e5,?_,?_⟩
         ·rw [cells_of_one hone]; simpa using e4
         ·rw [cells_of_one hone]; simpa using e2
        ·cases h
      ·cases h
    ·cases h
   ·cases h
  ·cases h
 ·cases h
def xindexAddr (T:Tab)(fr:Fr)(mem:Mem)(nx:Nat)(t:Nat)(x i:Operand)(q:SV):R :=
 match fnd T t,evo fr i with
 | some ti,.int _ n=>match ti.d with
  | .arr len e=>match fnd T e,evo fr x with
   | some ei,.loc r o=>some (.loc r (o + n.toNat * ei.cells),mem,nx,0<=n/\n<(len:Int))
   | _,_=>none
  | .slice e=>match fnd T e,evo fr x with
   | some ei,.sl _ z xs=>match Nat.beq z ei.cells with
    | true=>some (.elt q,mem,nx,0<=n/\n<(xs.length:Int)/\xs[n.toNat]? = some q)
    | false=>none
   | some ei,.own r=>match fnd mem r with
    | some (.row z _ xs)=>match Nat.beq z ei.cells with
     | true=>some (.relt r z n.toNat 0,mem,nx,0<=n/\n<(xs.length:Int))
     | false=>none
    | _=>none
   | _,_=>none
  | _=>none
 | _,_=>none
theorem ok_indexAddr (hT:TabOk P T){t:Nat}{x i:Operand}(ho:o.op = .indexAddr t x i){q sv:SV}{mem':Mem}{nx':Nat}{k:Prop}(h:xindexAddr T fr mem nx t x i q=some (sv,mem',nx',k))(hk:k):OpOk P N fr mem nx o sv mem' nx':=by
 unfold xindexAddr at h
 split at h
 ·rename_i ti ki n hti hi'
  have hdesc:=(hT t ti hti).desc
  split at h
  ·rename_i len e hd
   rw [hd] at hdesc; simp only [DescOk] at hdesc
   split at h
   ·rename_i ei r oo he hx
    simp only [Option.some.injEq,Prod.mk.injEq] at h
    obtain ⟨rfl,rfl,rfl,rfl⟩:=h
    refine OpOk.pure fun Γ ρ w a hi hf=>?_
    obtain ⟨h1,h1'⟩:=evo_den hf x
    rw [hx] at h1 h1'; simp only [Den] at h1
    obtain ⟨b,hb,hv⟩:=h1
    have h2:=(evo_den hf i).1
    rw [hi'] at h2; simp only [Den] at h2
    exact ⟨_,by simp [execOp,ho,hv,h2,Instr.indexAt,asIntOf,run_underlying hdesc,Instr.sureAddr,hk,(hT e ei he).sizeOf,add_addr]; rfl,by simp only [Den]; exact ⟨b,hb,rfl⟩,h1'⟩
   ·cases h
  ·rename_i e hd
   rw [hd] at hdesc; simp only [DescOk] at hdesc
   split at h
   ·rename_i ei xb z xs he hx
    split at h
    ·rename_i hz
     have hz:z=ei.cells:=Nat.eq_of_beq_eq_true hz
     simp only [Option.some.injEq,Prod.mk.injEq] at h
     obtain ⟨rfl,rfl,rfl,rfl⟩:=h
     obtain ⟨hk1,hk2,hk3⟩:=hk
     refine OpOk.pure fun Γ ρ w a hi hf=>?_
     obtain ⟨h1,h1'⟩:=evo_den hf x
     rw [hx] at h1; simp only [Den] at h1
     have h2:=(evo_den hf i).1
     rw [hi'] at h2; simp only [Den] at h2
     rcases h1 with ⟨_,_,h1⟩ | ⟨b,off,cap,cs,hv,hcap,_,hΓ,hle,hE⟩
     ·subst h1; simp at hk3
     obtain ⟨u,hu1,hu2,hu3⟩:=hE.get n.toNat hk3
     have hnl:n.toNat<xs.length:=(List.getElem?_eq_some_iff.1 hk3).1
     have hm:n.toNat * z + z<=cap * z:=by
      have:(n.toNat + 1) * z<=cap * z:=Nat.mul_le_mul_right _ om
      rw [Nat.add_mul] at this; omega
     refine ⟨.pointer (some ⟨b,off + n.toNat * z,none⟩),?_,?_,rfl⟩
     ·simp [execOp,ho,hv,h2,Instr.indexAt,asIntOf,run_underlying hdesc,hk1,hk2,(hT e ei he).sizeOf,add_addr,hz]
     ·simp only [Den]
      exact ⟨b,off + n.toNat * z,cs,u,rfl,hΓ,hu1,om,by rw [hu3,hu2,List.drop_drop]⟩
    ·cases h
   ·rename_i ei r he hx
    split at h
    ·rename_i z E xs hm
     split at h
     ·rename_i hz
      have hz:z=ei.cells:=Nat.eq_of_beq_eq_true hz
      simp only [Option.some.injEq,Prod.mk.injEq] at h
      obtain ⟨rfl,rfl,rfl,rfl⟩:=h
      obtain ⟨hk1,hk2⟩:=hk
      refine OpOk.pure fun Γ ρ w a hi hf=>?_
      obtain ⟨h1,h1'⟩:=evo_den hf x
      rw [hx] at h1 h1'; simp only [Den] at h1
      have h2:=(evo_den hf i).1
      rw [hi'] at h2; simp only [Den] at h2
      obtain ⟨⟨v,hv1,g⟩,_,_⟩:=hi.priv r _ hm
      rw [h1.1] at hv1; cases hv1
      rcases g with ⟨_,g,_⟩ | ⟨b,arr,cap,g1,g2,_⟩
      ·subst g; simp at hk2; omega
      refine ⟨.pointer (some ⟨b,n.toNat * z,none⟩),?_,?_,h1'⟩
      ·simp [execOp,ho,g2,h2,Instr.indexAt,asIntOf,run_underlying hdesc,hk1,hk2,(hT e ei he).sizeOf,add_addr,hz]
      ·simp only [Den]; exact ⟨b,g1,rfl⟩
     ·cases h
    ·cases h
   ·cases h
  ·cases h
 ·cases h
end
end Go.Proofs.YtmmfpkkamgapkaaGreat.X
