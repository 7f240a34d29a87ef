/- Weakening; calls,contracts,entering a function and coming back; loops and jumps. -/
import Derived.Test.YtmmfpkkamgapkaaGreatXg1
import Derived.ScopeJumps
import Derived.OrdersIn
import Derived.TacticsIn
import Derived.RangeFuncCalls
import Derived.RangeFuncLeaves
import Derived.RangeFuncRecord
namespace Go.Proofs.YtmmfpkkamgapkaaGreat.X
open Go Go.RowKit
structure St where
 fr:Fr
 mem:Mem
 nx:Nat
theorem put_defers (a:Act)(d:Option Nat)(v:Value):(a.put d v).defers=a.defers:=by cases d <;> rfl
structure Ok (Γ:Gh) (ρ:Env) (N:Nat) (s:St) (w:World) (a:Act):Prop where
 inv:Inv Γ ρ s.nx s.mem w
 marks:MkOk Γ.lo w a.defers
 frame:FrDen Γ ρ s.nx N s.fr a
structure Nxt (n0:Nat) (Γ:Gh) (ρ:Env) (s:St) (w:World) (Γ':Gh) (ρ':Env) (s':St) (w':World):Prop where
 stp:Stp ρ s.mem w ρ' s'.mem w'
 le:Γ.le Γ'
 same:Env.same n0 ρ ρ'
 nx:n0<=s'.nx
 new:∀ b,Γ' b≠none->Γ b≠none\/Owned ρ s.mem b\/w.heap.size<=b
theorem Env.same_trans {n:Nat}{a b c:Env}(h:Env.same n a b)(k:Env.same n b c):Env.same n a c:=fun r hr=>⟨(k r hr).1.trans (h r hr).1,(k r hr).2.trans (h r hr).2⟩
theorem Env.same_mono {n m:Nat}(h:n<=m){a b:Env}(k:Env.same m a b):Env.same n a b:=fun r hr=>k r (Nat.lt_of_lt_of_le hr h)
theorem Nxt.refl {n0:Nat}(Γ:Gh)(ρ:Env)(s:St)(w:World)(h:n0<=s.nx):Nxt n0 Γ ρ s w Γ ρ s w:=⟨Stp.refl _ _ _,Gh.le_refl _,Env.same_refl _ _,h,fun _ hb=>.inl hb⟩
theorem Nxt.trans {n0:Nat}{Γ Γ₁ Γ₂:Gh}{ρ ρ₁ ρ₂:Env}{s s₁ s₂:St}{w w₁ w₂:World}(h:Nxt n0 Γ ρ s w Γ₁ ρ₁ s₁ w₁)(k:Nxt n0 Γ₁ ρ₁ s₁ w₁ Γ₂ ρ₂ s₂ w₂):Nxt n0 Γ ρ s w Γ₂ ρ₂ s₂ w₂ where
 stp:=h.stp.trans k.stp
 le:=Gh.le_trans h.le k.le
 same:=Env.same_trans h.same k.same
 nx:=k.nx
 new b hb:=by
  rcases k.new b hb with hb | hb | hb
  ·exact h.new b hb
  ·rcases h.stp.own b hb with hb | hb
   ·exact .inr (.inl hb)
   ·exact .inr (.inr hb)
  ·exact .inr (.inr (Nat.le_trans h.stp.size hb))
def gd (ops:Array Oper)(fr:Fr):Option (Nat×Bool)->Option Bool
 | none=>some true
 | some (j,want)=>match ops[j]? with
  | some o=>match o.dst with
   | some d=>match fnd fr d with
    | some (.bool true)=>some want
    | some (.bool false)=>some (!want)
    | some (.tup [])=>some false
    | _=>none
   | none=>none
  | none=>none
theorem gd_sound {ops:Array Oper}{Γ:Gh}{ρ:Env}{nx N:Nat}{fr:Fr}{a:Act}(hf:FrDen Γ ρ nx N fr a){o:Oper}{b:Bool}(h:gd ops fr o.guard=some b):Region.wanted o (yielded ops a.tmps)=b:=by
 unfold Region.wanted
 cases hg:o.guard with
 | none=>rw [hg] at h; simp [gd] at h; simp [h]
 | some p =>
  obtain ⟨j,want⟩:=p
  rw [hg] at h
  simp only [gd] at h
  split at h
  ·rename_i oj hj
   split at h
   ·rename_i d hd
    split at h
    ·rename_i hs
     have h1:=(hf.slot d _ hs).1
     simp only [Den] at h1
     have:a.tmps[d]? = some (.bool true):=by
      rw [Array.getD_eq_getD_getElem?] at h1
      cases hq:a.tmps[d]? with
      | none=>simp [hq,undef] at h1
      | some v=>simpa [hq] using h1
     simp only [Option.some.injEq] at h
     subst h
     simp only [yielded,hj,Option.bind_some,hd,this]
     cases want <;> rfl
    ·rename_i hs
     have h1:=(hf.slot d _ hs).1
     simp only [Den] at h1
     have:a.tmps[d]? = some (.bool false):=by
      rw [Array.getD_eq_getD_getElem?] at h1
      cases hq:a.tmps[d]? with
      | none=>simp [hq,undef] at h1
      | some v=>simpa [hq] using h1
     simp only [Option.some.injEq] at h
     subst h
     simp only [yielded,hj,Option.bind_some,hd,this]
     cases want <;> rfl
    ·rename_i hs
     have h1:=(hf.slot d _ hs).1
     simp only [Den,DenL] at h1
     obtain ⟨vs,h1,h2⟩:=h1
     simp only [Option.some.injEq] at h
     subst h
     rw [Array.getD_eq_getD_getElem?] at h1
     simp only [yielded,hj,Option.bind_some,hd]
     cases hq:a.tmps[d]? with
     | none=>rfl
     | some v=>simp [hq] at h1; subst h1; rfl
    ·cases h
   ·cases h
  ·cases h
def putS (N:Nat)(fr:Fr)(d:Option Nat)(s:SV):Option Fr :=
 match d with
 | some d=>match Nat.blt d N with
  | true=>some ((d,s) :: fr)
  | false=>none
 | none=>some fr
theorem putS_sound {N:Nat}{fr fr':Fr}{d:Option Nat}{s:SV}(h:putS N fr d s=some fr'){Γ:Gh}{ρ:Env}{nx:Nat}{a:Act}(hf:FrDen Γ ρ nx N fr a){v:Value}(hv:Den Γ ρ s v)(hb:s.bd nx=true):FrDen Γ ρ nx N fr' (a.put d v):=by
 unfold putS at h
 split at h
 ·rename_i d
  split at h
  ·rename_i hd
   cases h
   exact hf.put d (by simpa using hd) s v hv hb
  ·cases h
 ·cases h; exact hf
def noc:Op->Bool
 | .move _ | .assign _ | .alloc _ | .box _ _ | .fieldAddr _ _ _ | .unOp _ _ _ | .build _ _ | .buildSlice _ _ _ | .makeFunc _ _ _ | .extract _ _ | .field _ _ _=>true
 | _=>false
theorem noc_true {T:Tab}{fr:Fr}{mem:Mem}{nx:Nat}{o:Op}{q sv:SV}{mem':Mem}{nx':Nat}{k:Prop}(h:xop1 T fr mem nx o q=some (sv,mem',nx',k))(hn:noc o=true):k:=by
 unfold noc at hn
 split at hn
 ·simp only [xop1,Option.some.injEq,Prod.mk.injEq] at h; rw [<- h.2.2.2]; trivial
 ·simp only [xop1,Option.some.injEq,Prod.mk.injEq] at h; rw [<- h.2.2.2]; trivial
 ·simp only [xop1,xalloc] at h
  split at h <;> first | (simp only [Option.some.injEq,Prod.mk.injEq] at h; rw [<- h.2.2.2]; trivial) | cases h
 ·simp only [xop1,xbox] at h
  split at h <;> first | (simp only [Option.some.injEq,Prod.mk.injEq] at h; rw [<- h.2.2.2]; trivial) | cases h
 ·simp only [xop1,xfieldAddr] at h
  repeat' split at h
  all_goals first | (simp only [Option.some.injEq,Prod.mk.injEq] at h; rw [<- h.2.2.2]; trivial) | cases h
 ·rename_i u t x
  cases u <;> simp only [xop1,xnot] at h <;> first | cases h | skip
  split at h <;> first | (simp only [Option.some.injEq,Prod.mk.injEq] at h; rw [<- h.2.2.2]; trivial) | cases h
 ·simp only [xop1,xbuild] at h
  repeat' split at h
  all_goals first | (simp only [Option.some.injEq,Prod.mk.injEq] at h; rw [<- h.2.2.2]; trivial) | cases h
 ·simp only [xop1,xbuildSlice] at h
  repeat' split at h
  all_goals first | (simp only [Option.some.injEq,Prod.mk.injEq] at h; rw [<- h.2.2.2]; trivial) | cases h
 ·rename_i f a c
  cases f <;> simp only [xop1,xmakeFunc] at h <;> first | (simp only [Option.some.injEq,Prod.mk.injEq] at h; rw [<- h.2.2.2]; trivial) | cases h
 ·simp only [xop1,xextract] at h
  repeat' split at h
  all_goals first | (simp only [Option.some.injEq,Prod.mk.injEq] at h; rw [<- h.2.2.2]; trivial) | cases h
 ·simp only [xop1,xfield] at h
  repeat' split at h
  all_goals first | (simp only [Option.some.injEq,Prod.mk.injEq] at h; rw [<- h.2.2.2]; trivial) | cases h
 ·cases hn
def xshare (mem:Mem)(nx:Nat)(r:R):R:=match r with
 | some (.own _,(_,.row z _ xs) :: _,_,k)=>some (.sl false z xs,mem,nx,k)
 | _=>none
def xop2 (T:Tab)(fr:Fr)(mem:Mem)(nx:Nat)(o:Op)(q:SV):R :=
 match o,q with
 | .call ⟨.builtin .append,⟨[x,y]⟩,⟨[t,t2]⟩⟩,.bool true=>xappsh T fr mem nx t t2 x y
 | .call ⟨.builtin .append,⟨[x,y]⟩,⟨[t,t2]⟩⟩,_=>xappend T fr mem nx t t2 x y
 | .buildSlice t len parts,.bool true=>xshare mem nx (xbuildSlice T fr mem nx t len parts)
 | .makeSlice t l c,.bool true=>xshare mem nx (xmakeSlice T fr mem nx t l c)
 | .buildSlice t len parts,.bool false=>xcells T fr mem nx t len parts
 | .indexAddr t x i,q=>match evo fr x with
  | .osub _ _ _ _=>xidxc T fr mem nx t x i
  | _=>xop1 T fr mem nx (.indexAddr t x i) q
 | .call ⟨.builtin .len,⟨[x]⟩,⟨[t]⟩⟩,q=>match evo fr x with
  | .osub _ _ _ _=>xlenc T fr mem nx t x q
  | _=>xop1 T fr mem nx (.call ⟨.builtin .len,⟨[x]⟩,⟨[t]⟩⟩) q
 | .call ⟨.builtin .clear,⟨[x]⟩,⟨[t]⟩⟩,_=>xclear T fr mem nx t x
 | .call ⟨.builtin .copy,⟨[x,y]⟩,⟨[t1,_]⟩⟩,q=>xcopy T fr mem nx t1 x y q
 | .slice t x lo none none,q=>match evo fr x with
  | .own _=>xosub T fr mem nx t x lo
  | _=>xop1 T fr mem nx (.slice t x lo none none) q
 | .slice t x none (some h) none,q=>match evo fr x with
  | .own _=>xpre T fr mem nx t x h
  | _=>xop1 T fr mem nx (.slice t x none (some h) none) q
 | .binOp .eql t x y yt,q=>match evo fr y with
  | .nils=>xnilcmp T fr mem nx false t x y
  | _=>xop1 T fr mem nx (.binOp .eql t x y yt) q
 | .binOp .neq t x y yt,q=>match evo fr y with
  | .nils=>xnilcmp T fr mem nx true t x y
  | _=>xop1 T fr mem nx (.binOp .neq t x y yt) q
 | .makeMap t res,q=>xmakeMap T mem nx t res q
 | .lookup t x i ok,q=>xlookup T fr mem nx t x i ok q
 | .mapUpdate t m key v,_=>xmapUpdate T fr mem nx t m key v
 | .insert t m key v,_=>xmapUpdate T fr mem nx t m key v
 | .nilCheck x,_=>xnil fr mem nx x
 | o,q=>xop1 T fr mem nx o q
theorem buildSlice_form {T:Tab}{fr:Fr}{mem:Mem}{nx t len:Nat}{parts:Array (Nat×Operand)}{sv:SV}{mem':Mem}{nx':Nat}{k:Prop}(h:xbuildSlice T fr mem nx t len parts=some (sv,mem',nx',k)):∃ z E xs,sv = .own nx/\mem'=(nx,.row z E xs) :: mem/\nx'=nx + 1/\k=True:=by
 unfold xbuildSlice at h
 repeat' split at h
 all_goals first | (simp only [Option.some.injEq,Prod.mk.injEq] at h; obtain ⟨rfl,rfl,rfl,rfl⟩:=h; exact ⟨_,_,_,rfl,rfl,rfl,rfl⟩) | cases h
theorem makeSlice_form {T:Tab}{fr:Fr}{mem:Mem}{nx t:Nat}{l c:Operand}{sv:SV}{mem':Mem}{nx':Nat}{k:Prop}(h:xmakeSlice T fr mem nx t l c=some (sv,mem',nx',k)):∃ z E xs,sv = .own nx/\mem'=(nx,.row z E xs) :: mem/\nx'=nx + 1:=by
 unfold xmakeSlice at h
 repeat' split at h
 all_goals first | (simp only [Option.some.injEq,Prod.mk.injEq] at h; obtain ⟨rfl,rfl,rfl,rfl⟩:=h; exact ⟨_,_,_,rfl,rfl,rfl⟩) | cases h
theorem xop2_sound {P:Program}{T:Tab}(hT:TabOk P T){N:Nat}{fr:Fr}{mem:Mem}{nx:Nat}{o:Oper}{q sv:SV}{mem':Mem}{nx':Nat}{k:Prop}(h:xop2 T fr mem nx o.op q=some (sv,mem',nx',k))(hk:k):OpOk P N fr mem nx o sv mem' nx':=by
 unfold xop2 at h
 split at h
 ·rename_i ho; exact ok_appsh hT ho h hk
 ·rename_i ho _; exact ok_append hT ho h hk
 ·rename_i t len parts ho
  unfold xshare at h
  split at h
  ·rename_i hb
   obtain ⟨_,_,_,e1,e2,e3,_⟩:=buildSlice_form hb
   cases e1; cases e2; subst e3
   simp only [Option.some.injEq,Prod.mk.injEq] at h
   obtain ⟨rfl,rfl,rfl,rfl⟩:=h
   exact (ok_buildSlice hT ho hb).share
  ·cases h
 ·rename_i t l c ho
  unfold xshare at h
  split at h
  ·rename_i hb
   obtain ⟨_,_,_,e1,e2,e3⟩:=makeSlice_form hb
   cases e1; cases e2; subst e3
   simp only [Option.some.injEq,Prod.mk.injEq] at h
   obtain ⟨rfl,rfl,rfl,rfl⟩:=h
   exact (ok_makeSlice hT ho hb hk).share
  ·cases h
 ·rename_i ho; exact ok_cells hT ho h
 ·rename_i ho
  split at h
  ·exact ok_idxc hT ho h hk
  ·rw [<- ho] at h; exact xop1_sound hT h hk
 ·rename_i ho
  split at h
  ·exact ok_lenc hT ho h hk
  ·rw [<- ho] at h; exact xop1_sound hT h hk
 ·rename_i ho; exact ok_clear hT ho h hk
 ·rename_i ho; exact ok_copy hT ho h hk
 ·rename_i ho
  split at h
  ·exact ok_osub hT ho h hk
  ·rw [<- ho] at h; exact xop1_sound hT h hk
 ·rename_i ho
  split at h
  ·exact ok_pre hT ho h hk
  ·rw [<- ho] at h; exact xop1_sound hT h hk
 ·rename_i ho
  split at h
  ·exact ok_nilcmp (ne:=false) hT ho h hk
  ·rw [<- ho] at h; exact xop1_sound hT h hk
 ·rename_i ho
  split at h
  ·exact ok_nilcmp (ne:=true) hT ho h hk
  ·rw [<- ho] at h; exact xop1_sound hT h hk
 ·rename_i ho; exact ok_makeMap hT ho h
 ·rename_i ho; exact ok_lookup hT ho h hk
 ·rename_i ho; exact ok_mapUpdate hT (.inl ho) h
 ·rename_i ho; exact ok_mapUpdate hT (.inr ho) h
 ·rename_i ho; exact ok_nil ho h
 ·exact xop1_sound hT h hk
theorem noc_true2 {T:Tab}{fr:Fr}{mem:Mem}{nx:Nat}{o:Op}{q sv:SV}{mem':Mem}{nx':Nat}{k:Prop}(h:xop2 T fr mem nx o q=some (sv,mem',nx',k))(hn:noc o=true):k:=by
 unfold xop2 at h
 split at h
 ·cases hn
 ·cases hn
 ·unfold xshare at h
  split at h
  ·rename_i hb
   obtain ⟨_,_,_,_,_,_,e4⟩:=buildSlice_form hb
   simp only [Option.some.injEq,Prod.mk.injEq] at h
   obtain ⟨_,_,_,rfl⟩:=h
   rw [e4]; trivial
  ·cases h
 ·cases hn
 ·unfold xcells at h
  repeat' split at h
  all_goals first | (simp only [Option.some.injEq,Prod.mk.injEq] at h; rw [<- h.2.2.2]; trivial) | cases h
 ·cases hn
 ·cases hn
 ·cases hn
 ·cases hn
 ·cases hn
 ·cases hn
 ·cases hn
 ·cases hn
 ·cases hn
 ·cases hn
 ·cases hn
 ·cases hn
 ·cases hn
 ·exact noc_true h hn
def xrun (T:Tab)(N:Nat)(ops:Array Oper)(orc:List (Nat×SV)):Nat->Nat->List Oper->St->Option (List Oper×St×List Prop)
 | 0,_,l,s=>some (l,s,[])
 | _ + 1,_,[],_=>none
 | n + 1,i,o :: l,s=>match gd ops s.fr o.guard with
  | some true=>match xop2 T s.fr s.mem s.nx o.op (match fnd orc i with | some q=>q | none=>.junk) with
   | some (sv,mem',nx',k)=>match putS N s.fr o.dst sv with
    | some fr'=>match xrun T N ops orc n (i + 1) l ⟨fr',mem',nx'⟩ with
     | some (l',s',ks)=>match noc o.op with
      | true=>some (l',s',ks)
      | false=>some (l',s',k :: ks)
     | none=>none
    | none=>none
   | none=>none
  | some false=>match putS N s.fr o.dst (.tup []) with
   | some fr'=>xrun T N ops orc n (i + 1) l ⟨fr',s.mem,s.nx⟩
   | none=>none
  | none=>none
def All:List Prop->Prop
 | []=>True
 | k :: ks=>k/\All ks
section
variable {rd:Option Nat} {P:Program} {T:Tab} {N n0:Nat} {ops:Array Oper}
def fnc (rd:Option Nat):Fence:={ Fence.wide with round:=rd }
theorem calls_fnc {rd:Option Nat}{n f:Nat}{args:Array Value}{w:World}{Q:Ending->World->Prop}(h:Calls P f args w Q):CallsIn (fnc rd) n P f args w Q:=(callsIn_wide (n:=n)).2 h
theorem sem_round {rd:Option Nat}{ρ:Operand->Value}{o:Oper}{w w':World}{r:Next}{v:Value}(h:(execOp ρ o).run P w = .ok r w')(hr:r = .value v\/r = .skip/\v=undef):(o.semAt rd ρ).run P w = .ok r w':=by
 rw [Oper.semAt_eq]
 ·exact h
 ·intro c ho
  simp only [execOp,ho,Sem.run_bind] at h
  cases hq:(resolve ρ c o.type).run P w with
  | ok d w1 =>
   rw [hq] at h
   simp only [Result.andThen,Sem.run_pure] at h
   cases h
   rcases hr with h | ⟨h,_⟩ <;> cases h
  | halt e w1 =>
   rw [hq] at h
   simp [Result.andThen] at h
def XO (rd:Option Nat)(P:Program)(N n0:Nat)(ops:Array Oper)(l:List Oper)(K:St->Prop)(s:St):Prop :=
 ∀ Γ ρ w a Q,n0<=s.nx->Ok Γ ρ N s w a->(∀ Γ' ρ' s' w' a',Ok Γ' ρ' N s' w' a'->Nxt n0 Γ ρ s w Γ' ρ' s' w'->K s'->Q .normal a' w')->wpListIn (fnc rd) 0 P ops Q l a w
theorem xo_nil {K:St->Prop}{s:St}(h:K s):XO rd P N n0 ops [] K s:=fun Γ ρ w a _ hn hok hQ=>hQ Γ ρ s w a hok (Nxt.refl Γ ρ s w hn) h
theorem undef_den {Γ:Gh}{ρ:Env}{n:Nat} : Den Γ ρ (.tup []) undef/\(SV.tup []).bd n=true:=⟨by simp only [Den]; exact ⟨#[],rfl,by simp [DenL]⟩,rfl⟩
theorem xo_op {o:Oper}{l:List Oper}{K:St->Prop}{s:St}{sv:SV}{mem':Mem}{nx':Nat}{fr':Fr}(hg:gd ops s.fr o.guard=some true)(hop:OpOk P N s.fr s.mem s.nx o sv mem' nx')(hp:putS N s.fr o.dst sv=some fr')
  (h:XO rd P N n0 ops l K ⟨fr',mem',nx'⟩):XO rd P N n0 ops (o :: l) K s:=by
 intro Γ ρ w a Q hn hok hQ
 refine wpListIn_step fun K' hK'=>?_
 rw [gd_sound hok.frame hg,if_pos rfl]
 obtain ⟨v,r,Γ',ρ',w',h1,h2,h3,h4,h5,h6,h7,h8,h9,h10⟩:=hop Γ ρ w a hok.inv hok.frame
 have hok':Ok Γ' ρ' N ⟨fr',mem',nx'⟩ w' (a.put o.dst v):=⟨h5,by rw [put_defers]; exact hok.marks.step hok.inv h8 h9,putS_sound hp (hok.frame.grow h9 h6 h7) h3 h4⟩
 have hnxt:Nxt n0 Γ ρ s w Γ' ρ' ⟨fr',mem',nx'⟩ w':=⟨h8,h9,Env.same_mono hn h6,Nat.le_trans hn h7,h10⟩
 have hgo:K' (a.put o.dst v) w':=hK' _ _ (h Γ' ρ' w' _ Q (Nat.le_trans hn h7) hok' (fun Γ₂ ρ₂ s₂ w₂ a₂ g1 g2 g3=>hQ Γ₂ ρ₂ s₂ w₂ a₂ g1 (hnxt.trans g2) g3))
 refine ⟨fun _ _=>trivial,?_⟩
 rw [sem_round h1 h2]
 rcases h2 with rfl | ⟨rfl,rfl⟩
 ·exact hgo
 ·exact hgo
theorem xo_skip {o:Oper}{l:List Oper}{K:St->Prop}{s:St}{fr':Fr}(hg:gd ops s.fr o.guard=some false)(hp:putS N s.fr o.dst (.tup [])=some fr')
  (h:XO rd P N n0 ops l K ⟨fr',s.mem,s.nx⟩):XO rd P N n0 ops (o :: l) K s:=by
 intro Γ ρ w a Q hn hok hQ
 refine wpListIn_step fun K' hK'=>?_
 rw [gd_sound hok.frame hg,if_neg Bool.false_ne_true]
 refine ⟨fun _ _=>trivial,?_⟩
 have hu:=undef_den (Γ:=Γ) (ρ:=ρ) (n:=s.nx)
 exact hK' _ _ (h Γ ρ w _ Q hn ⟨hok.inv,by rw [put_defers]; exact hok.marks,putS_sound hp hok.frame hu.1 hu.2⟩ (fun Γ₂ ρ₂ s₂ w₂ a₂ g1 g2 g3=>hQ Γ₂ ρ₂ s₂ w₂ a₂ g1 ⟨g2.stp,g2.le,g2.same,g2.nx,g2.new⟩ g3))
theorem xo_run (hT:TabOk P T)(orc:List (Nat×SV)):∀ (n i:Nat) (l:List Oper) (s:St) (l':List Oper) (s':St) (ks:List Prop) {K:St->Prop},xrun T N ops orc n i l s=some (l',s',ks)->All ks->XO rd P N n0 ops l' K s'->XO rd P N n0 ops l K s
 | 0,_,l,s,l',s',ks,K,h,_,hx=>by
  simp only [xrun,Option.some.injEq,Prod.mk.injEq] at h
  obtain ⟨rfl,rfl,rfl⟩:=h
  exact hx
 | n + 1,_,[],s,l',s',ks,K,h,_,_=>by simp [xrun] at h
 | n + 1,i,o :: l,s,l',s',ks,K,h,hk,hx=>by
  simp only [xrun] at h
  split at h
  ·rename_i hg
   split at h
   ·rename_i sv mem' nx' k hop
    split at h
    ·rename_i fr' hp
     split at h
     ·rename_i l1 s1 ks1 hr
      have hkk:k/\All ks1/\l1=l'/\s1=s':=by
       split at h
       ·rename_i hc
        simp only [Option.some.injEq,Prod.mk.injEq] at h
        obtain ⟨rfl,rfl,rfl⟩:=h
        exact ⟨noc_true2 hop hc,hk,rfl,rfl⟩
       ·simp only [Option.some.injEq,Prod.mk.injEq] at h
        obtain ⟨rfl,rfl,rfl⟩:=h
        exact ⟨hk.1,hk.2,rfl,rfl⟩
      obtain ⟨hk1,hk2,rfl,rfl⟩:=hkk
      exact xo_op hg (xop2_sound hT hop hk1) hp (xo_run hT orc n (i + 1) l _ _ _ ks1 hr hk2 hx)
     ·cases h
    ·cases h
   ·cases h
  ·rename_i hg
   split at h
   ·rename_i fr' hp
    exact xo_skip hg hp (xo_run hT orc n (i + 1) l _ _ _ ks h hk hx)
   ·cases h
  ·cases h
theorem xo_split {l:List Oper}{K:St->Prop}{s:St}(d:Nat){x:Bool}(hd:fnd s.fr d=some (.bool x))(ht:x=true->XO rd P N n0 ops l K ⟨(d,.bool true) :: s.fr,s.mem,s.nx⟩)(hf:x=false->XO rd P N n0 ops l K ⟨(d,.bool false) :: s.fr,s.mem,s.nx⟩):XO rd P N n0 ops l K s:=by
 have key:XO rd P N n0 ops l K ⟨(d,.bool x) :: s.fr,s.mem,s.nx⟩:=by
  cases x
  ·exact hf rfl
  ·exact ht rfl
 intro Γ ρ w a Q hn hok hQ
 refine key Γ ρ w a Q hn ⟨hok.inv,hok.marks,hok.frame.size,fun d' s' h=>?_⟩ (fun Γ₂ ρ₂ s₂ w₂ a₂ g1 g2 g3=>hQ Γ₂ ρ₂ s₂ w₂ a₂ g1 ⟨g2.stp,g2.le,g2.same,g2.nx,g2.new⟩ g3)
 rw [fnd_cons] at h
 split at h
 ·rename_i e; subst e; cases h; exact hok.frame.slot d _ hd
 ·exact hok.frame.slot d' s' h
inductive XE where
 | normal
 | exit (id:Nat)
 | goto (l:Nat)
 | ret
def XE.toExit:XE->Exit
 | .normal=>.normal
 | .exit i=>.exit i
 | .goto l=>.goto l
 | .ret=>.ret
def XPost (N n0:Nat)(K:XE->St->Prop)(Γ:Gh)(ρ:Env)(s:St)(w:World):Exit->Act->World->Prop:=fun e a' w' =>
 ∃ xe Γ' ρ' s',xe.toExit=e/\Ok Γ' ρ' N s' w' a'/\Nxt n0 Γ ρ s w Γ' ρ' s' w'/\K xe s'
def XW (rd:Option Nat)(P:Program)(N n0:Nat)(c:Code)(K:XE->St->Prop)(s:St):Prop :=
 ∀ Γ ρ w a,n0<=s.nx->Ok Γ ρ N s w a->c.wpIn (fnc rd) 0 P (XPost N n0 K Γ ρ s w) a w
variable {K:XE->St->Prop} {s:St}
theorem xpost_here {e:XE}{Γ:Gh}{ρ:Env}{w:World}{a:Act}(hn:n0<=s.nx)(hok:Ok Γ ρ N s w a)(h:K e s):XPost N n0 K Γ ρ s w e.toExit a w :=
 ⟨e,Γ,ρ,s,rfl,hok,Nxt.refl Γ ρ s w hn,h⟩
theorem xw_skip (h:K .normal s):XW rd P N n0 .skip K s:=fun _ _ _ _ hn hok=>wpIn_skip (xpost_here (e:=.normal) hn hok h)
theorem xw_label {l:Nat}(h:K .normal s):XW rd P N n0 (.label l) K s:=fun _ _ _ _ hn hok=>wpIn_label (xpost_here (e:=.normal) hn hok h)
theorem xw_exit {i:Nat}(h:K (.exit i) s):XW rd P N n0 (.exit i) K s:=fun _ _ _ _ hn hok=>wpIn_exit (xpost_here (e:=.exit i) hn hok h)
theorem xw_goto {l:Nat}(h:K (.goto l) s):XW rd P N n0 (.goto l) K s:=fun _ _ _ _ hn hok=>wpIn_goto (xpost_here (e:=.goto l) hn hok h)
theorem xw_ret (h:K .ret s):XW rd P N n0 .ret K s:=fun _ _ _ _ hn hok=>wpIn_ret (xpost_here (e:=.ret) hn hok h)
theorem xw_mono {c:Code}{K':XE->St->Prop}(h:XW rd P N n0 c K s)(hk:∀ e s',K e s'->K' e s'):XW rd P N n0 c K' s:=fun Γ ρ w a hn hok =>
 wpIn_mono (h Γ ρ w a hn hok) fun _ _ _ ⟨xe,Γ',ρ',s',h1,h2,h3,h4⟩=>⟨xe,Γ',ρ',s',h1,h2,h3,hk _ _ h4⟩
def andThen (rd:Option Nat)(P:Program)(N n0:Nat)(b:Code)(K:XE->St->Prop):XE->St->Prop
 | .normal,s=>XW rd P N n0 b K s
 | e,s=>K e s
theorem XPost.weaken {Γ Γ':Gh}{ρ ρ':Env}{s':St}{w w':World}(hn:Nxt n0 Γ ρ s w Γ' ρ' s' w'){e:Exit}{a:Act}{w₂:World}(h:XPost N n0 K Γ' ρ' s' w' e a w₂):XPost N n0 K Γ ρ s w e a w₂ :=
 let ⟨xe,Γ₂,ρ₂,s₂,h1,h2,h3,h4⟩:=h
 ⟨xe,Γ₂,ρ₂,s₂,h1,h2,hn.trans h3,h4⟩
theorem xw_seq {x y:Code}(h:XW rd P N n0 x (andThen rd P N n0 y K) s):XW rd P N n0 (.seq x y) K s:=fun Γ ρ w a hn hok =>
 wpIn_seq (wpIn_mono (h Γ ρ w a hn hok) fun _ _ _ ⟨xe,Γ',ρ',s',h1,h2,h3,h4⟩=>by
  subst h1
  cases xe with
  | normal=>exact wpIn_mono (h4 Γ' ρ' _ _ h3.nx h2) (fun _ _ _ q=>q.weaken h3)
  | exit i=>exact ⟨.exit i,Γ',ρ',s',rfl,h2,h3,h4⟩
  | goto l=>exact ⟨.goto l,Γ',ρ',s',rfl,h2,h3,h4⟩
  | ret=>exact ⟨.ret,Γ',ρ',s',rfl,h2,h3,h4⟩)
theorem xw_cond {c:Operand}{x y:Code}{b:Bool}(hc:evo s.fr c = .bool b)(ht:b=true->XW rd P N n0 x K s)(hf:b=false->XW rd P N n0 y K s):XW rd P N n0 (.cond c x y) K s:=fun Γ ρ w a hn hok=>by
 have h1:=(evo_den hok.frame c).1
 rw [hc] at h1; simp only [Den] at h1
 exact wpIn_cond_split h1 (fun e=>ht e Γ ρ w a hn hok) (fun e=>hf e Γ ρ w a hn hok)
theorem xw_true {c:Operand}{x y:Code}(hc:evo s.fr c = .bool true)(ht:XW rd P N n0 x K s):XW rd P N n0 (.cond c x y) K s:=xw_cond hc (fun _=>ht) (fun e=>by cases e)
theorem xw_false {c:Operand}{x y:Code}(hc:evo s.fr c = .bool false)(hf:XW rd P N n0 y K s):XW rd P N n0 (.cond c x y) K s:=xw_cond hc (fun e=>by cases e) (fun _=>hf)
def inBlock (id:Nat)(K:XE->St->Prop):XE->St->Prop
 | .exit i,s=>if i=id then K .normal s else K (.exit i) s
 | e,s=>K e s
theorem xw_block {id:Nat}{c:Code}(h:XW rd P N n0 c (inBlock id K) s):XW rd P N n0 (.block id c) K s:=fun Γ ρ w a hn hok =>
 wpIn_block (wpIn_mono (h Γ ρ w a hn hok) fun _ _ _ ⟨xe,Γ',ρ',s',h1,h2,h3,h4⟩=>by
  subst h1
  cases xe with
  | normal=>exact ⟨.normal,Γ',ρ',s',rfl,h2,h3,h4⟩
  | exit i =>
   simp only [inBlock] at h4
   simp only [XE.toExit,Exit.inBlock]
   split
   ·rename_i e; rw [if_pos e] at h4; exact ⟨.normal,Γ',ρ',s',rfl,h2,h3,h4⟩
   ·rename_i e; rw [if_neg e] at h4; exact ⟨.exit i,Γ',ρ',s',rfl,h2,h3,h4⟩
  | goto l=>exact ⟨.goto l,Γ',ρ',s',rfl,h2,h3,h4⟩
  | ret=>exact ⟨.ret,Γ',ρ',s',rfl,h2,h3,h4⟩)
theorem xw_region {id:Nat}{ops:Array Oper}(h:XO rd P N n0 ops ops.toList (K .normal) s):XW rd P N n0 (.region id ops false) K s:=fun Γ ρ w a hn hok =>
 wpIn_region_list (h Γ ρ w a _ hn hok fun Γ' ρ' s' _ _ h1 h2 h3=>⟨.normal,Γ',ρ',s',rfl,h1,h2,h3⟩)
end
mutual
def Wk:SV->SV->Prop
 | .agg l,t=>∃ m,t = .agg m/\WkL l m
 | .tup l,t=>∃ m,t = .tup m/\WkL l m
 | .nils,t=>t = .nils\/(∃ x z,t = .sl x z [])\/t = .any\/t = .junk
 | .sl x z xs,t=>(∃ y,t = .sl y z xs/\(y=true->x=true))\/t = .any\/t = .junk
 | .int k n,t=>t = .int k n\/t = .any\/t = .junk
 | .bool b,t=>t = .bool b\/t = .any\/t = .junk
 | .loc r o,t=>t = .loc r o\/t = .any\/t = .junk
 | .own r,t=>t = .own r\/t = .any\/t = .junk
 | s,t=>t=s\/t = .junk
def WkL:List SV->List SV->Prop
 | [],m=>m=[]
 | s :: l,m=>∃ t r,m=t :: r/\Wk s t/\WkL l r
end
mutual
theorem Wk.den {Γ:Gh}{ρ:Env}{n:Nat} : ∀ (s t:SV) (v:Value),Wk s t->Den Γ ρ s v->s.bd n=true->Den Γ ρ t v/\t.bd n=true
 | .agg l,t,v,h,hd,hb=>by
  simp only [Wk] at h
  obtain ⟨m,rfl,h⟩:=h
  simp only [Den] at hd ⊢
  obtain ⟨vs,e,hd⟩:=hd
  obtain ⟨h1,h2⟩:=WkL.den l m vs.toList h hd hb
  exact ⟨⟨vs,e,h1⟩,h2⟩
 | .tup l,t,v,h,hd,hb=>by
  simp only [Wk] at h
  obtain ⟨m,rfl,h⟩:=h
  simp only [Den] at hd ⊢
  obtain ⟨vs,e,hd⟩:=hd
  obtain ⟨h1,h2⟩:=WkL.den l m vs.toList h hd hb
  exact ⟨⟨vs,e,h1⟩,h2⟩
 | .nils,t,v,h,hd,hb=>by
  simp only [Wk] at h
  rcases h with rfl | ⟨x,z,rfl⟩ | rfl | rfl
  ·exact ⟨hd,hb⟩
  ·exact ⟨by simp only [Den] at hd ⊢; exact .inl ⟨none,hd,trivial⟩,rfl⟩
  ·exact ⟨by have:=hd.single rfl; simpa only [Den] using this,rfl⟩
  ·exact ⟨by simp only [Den],rfl⟩
 | .sl x z xs,t,v,h,hd,hb=>by
  simp only [Wk] at h
  rcases h with ⟨y,rfl,hy⟩ | rfl | rfl
  ·refine ⟨?_,rfl⟩
   simp only [Den] at hd ⊢
   exact hd.imp id fun ⟨b,off,cap,cs,h1,h2,h3,h4⟩=>⟨b,off,cap,cs,h1,h2,fun e=>h3 (hy e),h4⟩
  ·exact ⟨by have:=hd.single rfl; simpa only [Den] using this,rfl⟩
  ·exact ⟨by simp only [Den],rfl⟩
 | .int k m,t,v,h,hd,hb=>by
  simp only [Wk] at h
  rcases h with rfl | rfl | rfl
  ·exact ⟨hd,hb⟩
  ·exact ⟨by have:=hd.single rfl; simpa only [Den] using this,rfl⟩
  ·exact ⟨by simp only [Den],rfl⟩
 | .bool b,t,v,h,hd,hb=>by
  simp only [Wk] at h
  rcases h with rfl | rfl | rfl
  ·exact ⟨hd,hb⟩
  ·exact ⟨by have:=hd.single rfl; simpa only [Den] using this,rfl⟩
  ·exact ⟨by simp only [Den],rfl⟩
 | .loc r o,t,v,h,hd,hb=>by
  simp only [Wk] at h
  rcases h with rfl | rfl | rfl
  ·exact ⟨hd,hb⟩
  ·exact ⟨by have:=hd.single rfl; simpa only [Den] using this,rfl⟩
  ·exact ⟨by simp only [Den],rfl⟩
 | .own r,t,v,h,hd,hb=>by
  simp only [Wk] at h
  rcases h with rfl | rfl | rfl
  ·exact ⟨hd,hb⟩
  ·exact ⟨by have:=hd.single rfl; simpa only [Den] using this,rfl⟩
  ·exact ⟨by simp only [Den],rfl⟩
 | .fn _ _ _,t,v,h,hd,hb=>by
  simp only [Wk] at h
  rcases h with rfl | rfl
  ·exact ⟨hd,hb⟩
  ·exact ⟨by simp only [Den],rfl⟩
 | .relt _ _ _ _,t,v,h,hd,hb=>by
  simp only [Wk] at h
  rcases h with rfl | rfl
  ·exact ⟨hd,hb⟩
  ·exact ⟨by simp only [Den],rfl⟩
 | .osub _ _ _ _,t,v,h,hd,hb=>by
  simp only [Wk] at h
  rcases h with rfl | rfl
  ·exact ⟨hd,hb⟩
  ·exact ⟨by simp only [Den],rfl⟩
 | .elt _,t,v,h,hd,hb=>by
  simp only [Wk] at h
  rcases h with rfl | rfl
  ·exact ⟨hd,hb⟩
  ·exact ⟨by simp only [Den],rfl⟩
 | .raw _,t,v,h,hd,hb=>by
  simp only [Wk] at h
  rcases h with rfl | rfl
  ·exact ⟨hd,hb⟩
  ·exact ⟨by simp only [Den],rfl⟩
 | .any,t,v,h,hd,hb=>by
  simp only [Wk] at h
  rcases h with rfl | rfl
  ·exact ⟨hd,hb⟩
  ·exact ⟨by simp only [Den],rfl⟩
 | .junk,t,v,h,hd,hb=>by
  simp only [Wk] at h
  rcases h with rfl | rfl <;> exact ⟨hd,hb⟩
theorem WkL.den {Γ:Gh}{ρ:Env}{n:Nat} : ∀ (l m:List SV) (vs:List Value),WkL l m->DenL Γ ρ l vs->bdL n l=true->DenL Γ ρ m vs/\bdL n m=true
 | [],m,vs,h,hd,_=>by simp only [WkL] at h; subst h; exact ⟨hd,rfl⟩
 | s :: l,m,vs,h,hd,hb=>by
  simp only [WkL] at h
  obtain ⟨t,r,rfl,h1,h2⟩:=h
  simp only [DenL,bdL,Bool.and_eq_true] at hd hb ⊢
  obtain ⟨v,vr,e,d1,d2⟩:=hd
  obtain ⟨g1,g2⟩:=Wk.den s t v h1 d1 hb.1
  obtain ⟨g3,g4⟩:=WkL.den l r vr h2 d2 hb.2
  exact ⟨⟨v,vr,e,g1,g3⟩,g2,g4⟩
end
mutual
theorem Wk.refl:∀ s:SV,Wk s s
 | .agg l=>by simp only [Wk]; exact ⟨l,rfl,WkL.refl l⟩
 | .tup l=>by simp only [Wk]; exact ⟨l,rfl,WkL.refl l⟩
 | .nils=>by simp only [Wk]; exact .inl trivial
 | .sl x z xs=>by simp only [Wk]; exact .inl ⟨x,rfl,id⟩
 | .int _ _=>by simp only [Wk]; exact .inl trivial
 | .bool _=>by simp only [Wk]; exact .inl trivial
 | .loc _ _=>by simp only [Wk]; exact .inl trivial
 | .own _=>by simp only [Wk]; exact .inl trivial
 | .fn _ _ _=>by simp only [Wk]; exact .inl trivial
 | .relt _ _ _ _=>by simp only [Wk]; exact .inl trivial
 | .osub _ _ _ _=>by simp only [Wk]; exact .inl trivial
 | .elt _=>by simp only [Wk]; exact .inl trivial
 | .raw _=>by simp only [Wk]; exact .inl trivial
 | .any=>by simp only [Wk]; exact .inl trivial
 | .junk=>by simp only [Wk]; exact .inl trivial
theorem WkL.refl:∀ l:List SV,WkL l l
 | []=>by simp only [WkL]
 | s :: l=>by simp only [WkL]; exact ⟨s,l,rfl,Wk.refl s,WkL.refl l⟩
end
def Enterable (P:Program)(f:Nat):Prop:=∃ fn,P.funcs[f]? = some fn/\fn.name≠ "runtime.NumGoroutine"/\fn.body.isSome=true
theorem Enterable.run {P:Program}{f:Nat}(h:Enterable P f)(args:Array Value)(w:World):(callFunc f args).run P w = .ok (.enter f args) w:=by
 obtain ⟨fn,h1,h2,h3⟩:=h
 have h4:(fn.name == "runtime.NumGoroutine")=false:=by simpa using h2
 have h5:fn.body.isNone=false:=by cases hb:fn.body <;> simp_all
 simp only [callFunc,Sem.run_bind,run_program,Result.andThen_ok,h1,h4,h5,Bool.false_eq_true,if_false,Sem.run_pure]
def XCall (P:Program)(f:Nat)(args:List SV)(mem:Mem)(nx:Nat)(K:SV->Mem->Nat->Prop):Prop :=
 Enterable P f/\∀ Γ ρ w vs,Inv Γ ρ nx mem w->DenL Γ ρ args vs->bdL nx args=true->Calls P f vs.toArray w fun e w' =>
  ∃ v sv Γ' ρ' mem' nx',e = .returned v/\Inv Γ' ρ' nx' mem' w'/\Den Γ' ρ' sv v/\sv.bd nx'=true/\Stp ρ mem w ρ' mem' w'/\Γ.le Γ'/\Env.same nx ρ ρ'/\nx<=nx' /\
   (∀ b,Γ' b≠none->Γ b≠none\/Owned ρ mem b\/w.heap.size<=b)/\K sv mem' nx'
def PubOk (Γ:Gh)(w:World):Prop:=∀ b cs,Γ b=some cs->∃ E fz,w.heap[b]? = some (.cells cs.toArray E fz)
def Pub (P:Program)(f:Nat)(args:List SV)(R:SV->Prop):Prop :=
 Enterable P f/\∀ Γ w vs,PubOk Γ w->DenL Γ Env.nil args vs->Calls P f vs.toArray w fun e w' =>
  ∃ v sv Γ',e = .returned v/\R sv/\Den Γ' Env.nil sv v/\PubOk Γ' w'/\Γ.le Γ'/\Below w.heap.size w w'/\∀ b,Γ' b≠none->Γ b≠none\/w.heap.size<=b
theorem Pub.mono {P:Program}{f:Nat}{args:List SV}{R R':SV->Prop}(h:Pub P f args R)(hr:∀ s,R s->R' s):Pub P f args R' :=
 ⟨h.1,fun Γ w vs h1 h2=>(h.2 Γ w vs h1 h2).mono fun _ _ ⟨v,sv,Γ',g1,g2,g3⟩=>⟨v,sv,Γ',g1,hr _ g2,g3⟩⟩
theorem DenL.ofBd0 {Γ:Gh}{ρ ρ':Env}{l:List SV}{vs:List Value}(h:DenL Γ ρ l vs)(hb:bdL 0 l=true):DenL Γ ρ' l vs :=
 DenL.ext (Gh.le_refl _) (n:=0) l vs (fun r hr=>absurd hr (Nat.not_lt_zero r)) hb h
theorem xcall_pub {P:Program}{f:Nat}{args args':List SV}{mem:Mem}{nx:Nat}{R:SV->Prop}{K:SV->Mem->Nat->Prop}(h:Pub P f args' R)(hw:WkL args args')(hb:bdL 0 args'=true)(hk:∀ sv,R sv->K sv mem nx):XCall P f args mem nx K:=by
 refine ⟨h.1,fun Γ ρ w vs hi hd hbd=>?_⟩
 refine (h.2 Γ w vs hi.pub ((WkL.den args args' vs hw hd hbd).1.ofBd0 hb)).mono ?_
 rintro e w' ⟨v,sv,Γ',rfl,hR,hden,hpub,hle,hbel,hnew⟩
 have hstay:∀ b,b<w.heap.size->Γ b=none->Γ' b=none:=fun b hb0 hn=>by
  cases hq:Γ' b with
  | none=>rfl
  | some cs =>
   rcases hnew b (by simp [hq]) with h | h
   ·exact absurd hn h
   ·omega
 refine ⟨v,sv,Γ',ρ,mem,nx,rfl,⟨hpub,fun r B hB=>?_,hi.inj⟩,(Den.ofNil sv v hden).1,hden.nil_bd nx,⟨hbel.os,hbel.tape,hbel.output,hbel.size,fun b hb0 _=>hbel.block b hb0,fun b hb0=>.inl hb0⟩,hle,Env.same_refl _ _,Nat.le_refl _,fun b hb0=>(hnew b hb0).imp id .inr,hk sv hR⟩
 obtain ⟨h1,h2,h3⟩:=hi.priv r B hB
 exact ⟨h1.move hle (Env.same_refl nx ρ) h2 h3 (fun b hb0=>⟨hbel.block b (h1.lt hb0),hstay b (h1.lt hb0)⟩),h2,h3⟩
def callee (fr:Fr)(o:Op):Option (Nat×List SV) :=
 match o with
 | .call ⟨.value g,args,_⟩=>match evo fr g with
  | .fn f first cap=>some (f,first++args.toList.map (evo fr)++cap)
  | _=>none
 | _=>none
theorem xo_call {rd:Option Nat}{P:Program}{N n0:Nat}{ops:Array Oper}{o:Oper}{l:List Oper}{K:St->Prop}{s:St}{f:Nat}{args:List SV}(hg:gd ops s.fr o.guard=some true)(hc:callee s.fr o.op=some (f,args))
  (h:XCall P f args s.mem s.nx fun sv mem' nx'=>∃ fr',putS N s.fr o.dst sv=some fr'/\XO rd P N n0 ops l K ⟨fr',mem',nx'⟩):XO rd P N n0 ops (o :: l) K s:=by
 intro Γ ρ w a Q hn hok hQ
 refine wpListIn_step fun K' hK'=>?_
 rw [gd_sound hok.frame hg,if_pos rfl]
 unfold callee at hc
 split at hc
 ·rename_i g as ats ho
  split at hc
  ·rename_i f' first cap hg'
   simp only [Option.some.injEq,Prod.mk.injEq] at hc
   obtain ⟨rfl,rfl⟩:=hc
   obtain ⟨g1,g1b⟩:=evo_den hok.frame g
   rw [hg'] at g1 g1b
   simp only [Den] at g1
   obtain ⟨va,vc,g2,g3,g4⟩:=g1
   simp only [SV.bd,Bool.and_eq_true] at g1b
   obtain ⟨m1,m2⟩:=mapDen hok.frame as.toList
   obtain ⟨henter,hcall⟩:=h
   have hden:DenL Γ ρ (first++as.toList.map (evo s.fr)++cap) (va.toList++as.toList.map a.eval++vc.toList):=(g3.append m1).append g4
   have hbd:bdL s.nx (first++as.toList.map (evo s.fr)++cap)=true:=bdL_append (bdL_append g1b.1 m2) g1b.2
   have hrun:(execOp a.eval o).run P w = .ok (.enter f' (va.toList++as.toList.map a.eval++vc.toList).toArray) w:=by
    have he:=henter.run (va.toList++as.toList.map a.eval++vc.toList).toArray w
    simp only [execOp,ho,resolve,g2,Deferred.ofValue,Sem.run_bind,Sem.run_pure,Result.andThen_ok,invoke]
    rw [<- he]
    congr 2
    apply Array.toList_inj.1
    simp
   refine ⟨fun _ _=>trivial,?_⟩
   rw [Oper.semAt_eq _ _ _ (fun c hc=>by rw [ho] at hc; cases hc),hrun,Oper.uponIn_enter]
   refine ⟨(fun hd=>by cases hd),calls_fnc ?_⟩
   refine (hcall Γ ρ w _ hok.inv hden hbd).mono ?_
   rintro e w' ⟨v,sv,Γ',ρ',mem',nx',rfl,h1,h2,h3,h4,h5,h6,h7,h8,fr',hp,hx⟩
   refine hK' _ _ (hx Γ' ρ' w' _ Q (Nat.le_trans hn h7) ⟨h1,by rw [put_defers]; exact hok.marks.step hok.inv h4 h5,putS_sound hp (hok.frame.grow h5 h6 h7) h2 h3⟩ (fun Γ₂ ρ₂ s₂ w₂ a₂ k1 k2 k3=>hQ Γ₂ ρ₂ s₂ w₂ a₂ k1 (Nxt.trans (s₁:=⟨fr',mem',nx'⟩) ⟨h4,h5,Env.same_mono hn h6,Nat.le_trans hn h7,h8⟩ k2) k3))
  ·cases hc
 ·cases hc
def xres1 (T:Tab)(s:St):ResultVar->Option SV
 | .tmp t=>some (match fnd s.fr t with | some x=>x | none=>.junk)
 | .cell a t=>match fnd s.fr a,fnd T t with
  | some (.loc r 0),some ti=>match fnd s.mem r with
   | some (.cells l _)=>match ti.agg with
    | true=>match Nat.beq l.length ti.cells with
     | true=>some (.agg l)
     | false=>none
    | false=>match l with
     | [x]=>some x
     | _=>none
   | _=>none
  | _,_=>none
def xresL (T:Tab)(s:St):List ResultVar->Option (List SV)
 | []=>some []
 | r :: l=>match xres1 T s r,xresL T s l with
  | some x,some y=>some (x :: y)
  | _,_=>none
def xres (T:Tab)(s:St)(rs:Array ResultVar):Option SV :=
 match xresL T s rs.toList with
 | some [x]=>some x
 | some l=>some (.tup l)
 | none=>none
section
variable {rd:Option Nat} {P:Program} {T:Tab} {N n0:Nat}
theorem xres1_sound (hT:TabOk P T){s:St}{Γ:Gh}{ρ:Env}{w:World}{a:Act}(hok:Ok Γ ρ N s w a){r:ResultVar}{x:SV}(h:xres1 T s r=some x) :
  ∃ v,((match r with | .tmp t=>Pure.pure (a.tmps.getD t undef) | .cell c t=>do loadVar t (<- asAddr (a.tmps.getD c undef)):Sem Value)).run P w = .ok v w/\Den Γ ρ x v/\x.bd s.nx=true:=by
 cases r with
 | tmp t =>
  simp only [xres1,Option.some.injEq] at h
  subst h
  refine ⟨_,rfl,?_⟩
  cases hq:fnd s.fr t with
  | none=>exact ⟨by simp only [Den],rfl⟩
  | some y=>exact hok.frame.slot t y hq
 | cell c t =>
  simp only [xres1] at h
  split at h
  ·rename_i rr ti hc ht
   split at h
   ·rename_i l E hl
    have g1:=(hok.frame.slot c _ hc).1
    simp only [Den] at g1
    obtain ⟨b,hb,hv⟩:=g1
    obtain ⟨⟨b',arr,g2,g3,g4,_⟩,_,g5⟩:=hok.inv.priv rr _ hl
    rw [hb] at g2; cases g2
    have hlen:=g4.length
    simp only [Array.length_toList] at hlen
    split at h
    ·rename_i ha
     split at h
     ·rename_i he
      cases h
      have he:l.length=ti.cells:=Nat.eq_of_beq_eq_true he
      have:=(run_loadVar_at (hT t ti ht) g3 0).1 ha om
      refine ⟨.agg arr,?_,by simp only [Den]; exact ⟨arr,rfl,g4⟩,g5⟩
      simp only [hv,asAddr,Sem.run_bind,Sem.run_pure,Result.andThen_ok,this]
      congr 2
      apply Array.toList_inj.1
      simp only [List.drop_zero]
      rw [List.take_of_length_le (by simp; omega)]
     ·cases h
    ·rename_i ha
     split at h
     ·rename_i x
      cases h
      simp only [DenL] at g4
      obtain ⟨v,r',e,d1,rfl⟩:=g4
      simp only [Blk.bd,bdL,Bool.and_eq_true] at g5
      have:=(run_loadVar_at (hT t ti ht) g3 0).2 ha v (by rw [e]; rfl)
      exact ⟨v,by simp only [hv,asAddr,Sem.run_bind,Sem.run_pure,Result.andThen_ok,this],d1,g5.1⟩
     ·cases h
   ·cases h
  ·cases h
theorem xresL_sound (hT:TabOk P T){s:St}{Γ:Gh}{ρ:Env}{w:World}{a:Act}(hok:Ok Γ ρ N s w a):∀ (rs:List ResultVar) (l:List SV),xresL T s rs=some l ->
  ∃ vs:List Value,(rs.mapM fun r=>(match r with | .tmp t=>Pure.pure (a.tmps.getD t undef) | .cell c t=>do loadVar t (<- asAddr (a.tmps.getD c undef)):Sem Value)).run P w = .ok vs w/\DenL Γ ρ l vs/\bdL s.nx l=true
 | [],l,h=>by
  simp only [xresL,Option.some.injEq] at h
  subst h
  exact ⟨[],by simp,by simp [DenL],rfl⟩
 | r :: rs,l,h=>by
  simp only [xresL] at h
  split at h
  ·rename_i x y hx hy
   cases h
   obtain ⟨v,h1,h2,h3⟩:=xres1_sound hT hok hx
   obtain ⟨vs,h4,h5,h6⟩:=xresL_sound hT hok rs y hy
   refine ⟨v :: vs,?_,by simp only [DenL]; exact ⟨v,vs,rfl,h2,h5⟩,by simp [bdL,h3,h6]⟩
   rw [List.mapM_cons,Sem.run_bind]
   cases r with
   | tmp t=>simp only at h1 ⊢; rw [h1,Result.andThen_ok,Sem.run_bind,h4]; rfl
   | cell c t=>simp only at h1 ⊢; rw [h1,Result.andThen_ok,Sem.run_bind,h4]; rfl
  ·cases h
theorem xres_sound (hT:TabOk P T){s:St}{Γ:Gh}{ρ:Env}{w:World}{a:Act}(hok:Ok Γ ρ N s w a){fn:Func}{x:SV}(h:xres T s fn.results=some x):∃ v,(results fn a.tmps).run P w = .ok v w/\Den Γ ρ x v/\x.bd s.nx=true:=by
 unfold xres at h
 have key:∀ l,xresL T s fn.results.toList=some l->∃ vs:List Value,((results fn a.tmps).run P w = .ok (if h:vs.toArray.size=1 then vs.toArray[0] else .tuple vs.toArray) w)/\DenL Γ ρ l vs/\bdL s.nx l=true:=fun l hl=>by
  obtain ⟨vs,h1,h2,h3⟩:=xresL_sound hT hok fn.results.toList l hl
  refine ⟨vs,?_,h2,h3⟩
  have e:(results fn a.tmps).run P w=(((fn.results.toList.mapM fun r=>(match r with | .tmp t=>Pure.pure (a.tmps.getD t undef) | .cell c t=>do loadVar t (<- asAddr (a.tmps.getD c undef)):Sem Value)).run P w).andThen fun l w'=>.ok l.toArray w').andThen
    fun vs w'=>.ok (if h:vs.size=1 then vs[0] else .tuple vs) w':=by
   unfold results
   rw [Array.mapM_eq_mapM_toList,Sem.run_bind,Sem.run_map]
   rfl
  rw [e,h1]
  rfl
 split at h
 ·rename_i x' hl
  cases h
  obtain ⟨vs,h1,h2,h3⟩:=key _ hl
  simp only [DenL] at h2
  obtain ⟨v,r,rfl,h4,rfl⟩:=h2
  simp only [bdL,Bool.and_eq_true] at h3
  exact ⟨v,by simpa using h1,h4,h3.1⟩
 ·rename_i l hne hl
  cases h
  obtain ⟨vs,h1,h2,h3⟩:=key _ hl
  have hlen:=h2.length
  have hn1:¬ vs.toArray.size=1:=fun e=>by
   simp at e
   rw [e] at hlen
   match l,hlen with
   | [x],_=>exact hne x rfl
  rw [dif_neg hn1] at h1
  exact ⟨_,h1,by simp only [Den]; exact ⟨vs.toArray,rfl,by simpa using h2⟩,h3⟩
 ·cases h
def pub1 (mem:Mem):SV->Option SV
 | .own r=>match fnd mem r with
  | some (.row z _ xs)=>some (.sl false z xs)
  | _=>none
 | .int k n=>some (.int k n)
 | .bool b=>some (.bool b)
 | .nils=>some .nils
 | .sl x z xs=>some (.sl x z xs)
 | .elt s=>some (.elt s)
 | .raw v=>some (.raw v)
 | .any=>some .any
 | .junk=>some .junk
 | _=>none
def pubL (mem:Mem):List SV->Option (List SV)
 | []=>some []
 | s :: l=>match pub1 mem s,pubL mem l with
  | some x,some y=>some (x :: y)
  | _,_=>none
def pub2 (mem:Mem):SV->Option SV
 | .agg l=>match pubL mem l with
  | some m=>some (.agg m)
  | none=>none
 | s=>pub1 mem s
def pub2L (mem:Mem):List SV->Option (List SV)
 | []=>some []
 | s :: l=>match pub2 mem s,pub2L mem l with
  | some x,some y=>some (x :: y)
  | _,_=>none
def pubS (mem:Mem):SV->Option SV
 | .tup l=>match pub2L mem l with
  | some m=>some (.tup m)
  | none=>none
 | s=>pub2 mem s
open Classical in
noncomputable def Gh.open' (Γ:Gh) (ρ:Env) (mem:Mem) (w:World):Gh:=⟨fun b =>
 if ∃ r z E xs,fnd mem r=some (.row z E xs)/\ρ.blk r=some b then (match w.heap[b]? with | some (.cells arr _ _)=>some arr.toList | _=>none) else Γ b,Γ.lo⟩
theorem open_le {Γ:Gh}{ρ:Env}{nx:Nat}{mem:Mem}{w:World}(h:Inv Γ ρ nx mem w):Γ.le (Γ.open' ρ mem w):=⟨fun b cs hb=>by
 simp only [Gh.open']
 split
 ·rename_i he
  obtain ⟨r,z,E,xs,h1,h2⟩:=he
  obtain ⟨⟨v,_,g⟩,_,_⟩:=h.priv r _ h1
  rcases g with ⟨_,_,g⟩ | ⟨b',arr,cap,g1,_,_,_,_,_,_,g8⟩
  ·rw [h2] at g; cases g
  ·rw [h2] at g1; cases g1; rw [hb] at g8; cases g8
 ·exact hb,rfl⟩
theorem open_pub {Γ:Gh}{ρ:Env}{nx:Nat}{mem:Mem}{w:World}(h:Inv Γ ρ nx mem w):PubOk (Γ.open' ρ mem w) w:=fun b cs hb=>by
 simp only [Gh.open'] at hb
 split at hb
 ·split at hb
  ·rename_i arr E fz he
   cases hb
   exact ⟨E,fz,by simpa using he⟩
  ·cases hb
 ·exact h.pub b cs hb
theorem open_new {Γ:Gh}{ρ:Env}{mem:Mem}{w:World}{b:Nat}(hb:Γ.open' ρ mem w b≠none):Γ b≠none\/Owned ρ mem b:=by
 simp only [Gh.open'] at hb
 split at hb
 ·rename_i he
  obtain ⟨r,z,E,xs,h1,h2⟩:=he
  exact .inr ⟨r,_,h1,h2⟩
 ·exact .inl hb
theorem pub1_sound {Γ:Gh}{ρ:Env}{nx:Nat}{mem:Mem}{w:World}(h:Inv Γ ρ nx mem w){s t:SV}{v:Value}(hp:pub1 mem s=some t)(hd:Den Γ ρ s v):Den (Γ.open' ρ mem w) Env.nil t v:=by
 have hle:=open_le h
 have easy:s.bd 0=true->t=s->Den (Γ.open' ρ mem w) Env.nil t v:=fun hb e=>by
  subst e; exact Den.pub hle t v (hd.ofBd0 hb)
 unfold pub1 at hp
 split at hp
 ·rename_i r
  split at hp
  ·rename_i z E xs hm
   cases hp
   simp only [Den] at hd
   obtain ⟨⟨u,hu,g⟩,_,_⟩:=h.priv r _ hm
   rw [hd.1] at hu; cases hu
   rcases g with ⟨g1,g2,_⟩ | ⟨b,arr,cap,g1,g2,g3,g4,g5,g6,_,_⟩
   ·subst g2; simp only [Den]; exact .inl ⟨none,g1,trivial⟩
   ·simp only [Den]
    refine .inr ⟨b,0,cap,arr.toList,g2,g4,(fun e=>by cases e),?_,by simp; omega,?_⟩
    ·simp only [Gh.open']
     rw [if_pos ⟨r,z,E,xs,hm,g1⟩,g3]
    ·simpa using DenE.ext hle z xs _ g6
  ·cases hp
 all_goals first | (cases hp; exact easy rfl rfl) | cases hp
theorem pubL_sound {Γ:Gh}{ρ:Env}{nx:Nat}{mem:Mem}{w:World}(h:Inv Γ ρ nx mem w):∀ {l m:List SV} {vs:List Value},pubL mem l=some m->DenL Γ ρ l vs->DenL (Γ.open' ρ mem w) Env.nil m vs
 | [],m,vs,hp,hd=>by simp only [pubL,Option.some.injEq] at hp; subst hp; simpa only [DenL] using hd
 | s :: l,m,vs,hp,hd=>by
  simp only [pubL] at hp
  split at hp
  ·rename_i x y hx hy
   cases hp
   simp only [DenL] at hd ⊢
   obtain ⟨v,r,e,d1,d2⟩:=hd
   exact ⟨v,r,e,pub1_sound h hx d1,pubL_sound h hy d2⟩
  ·cases hp
theorem pub2_sound {Γ:Gh}{ρ:Env}{nx:Nat}{mem:Mem}{w:World}(h:Inv Γ ρ nx mem w){s t:SV}{v:Value}(hp:pub2 mem s=some t)(hd:Den Γ ρ s v):Den (Γ.open' ρ mem w) Env.nil t v:=by
 unfold pub2 at hp
 split at hp
 ·split at hp
  ·rename_i m hm
   cases hp
   simp only [Den] at hd ⊢
   obtain ⟨vs,e,hd⟩:=hd
   exact ⟨vs,e,pubL_sound h hm hd⟩
  ·cases hp
 ·exact pub1_sound h hp hd
theorem pub2L_sound {Γ:Gh}{ρ:Env}{nx:Nat}{mem:Mem}{w:World}(h:Inv Γ ρ nx mem w):∀ {l m:List SV} {vs:List Value},pub2L mem l=some m->DenL Γ ρ l vs->DenL (Γ.open' ρ mem w) Env.nil m vs
 | [],m,vs,hp,hd=>by simp only [pub2L,Option.some.injEq] at hp; subst hp; simpa only [DenL] using hd
 | s :: l,m,vs,hp,hd=>by
  simp only [pub2L] at hp
  split at hp
  ·rename_i x y hx hy
   cases hp
   simp only [DenL] at hd ⊢
   obtain ⟨v,r,e,d1,d2⟩:=hd
   exact ⟨v,r,e,pub2_sound h hx d1,pub2L_sound h hy d2⟩
  ·cases hp
theorem pubS_sound {Γ:Gh}{ρ:Env}{nx:Nat}{mem:Mem}{w:World}(h:Inv Γ ρ nx mem w){s t:SV}{v:Value}(hp:pubS mem s=some t)(hd:Den Γ ρ s v):Den (Γ.open' ρ mem w) Env.nil t v:=by
 unfold pubS at hp
 split at hp
 ·split at hp
  ·rename_i m hm
   cases hp
   simp only [Den] at hd ⊢
   obtain ⟨vs,e,hd⟩:=hd
   exact ⟨vs,e,pub2L_sound h hm hd⟩
  ·cases hp
 ·exact pub2_sound h hp hd
def WkD (y t:SV):Prop:=∀ Γ v,Den Γ Env.nil y v->Den Γ Env.nil t v
def Back (T:Tab)(rs:Array ResultVar)(R:SV->Prop):XE->St->Prop
 | .ret,s | .normal,s=>∃ x y t,xres T s rs=some x/\pubS s.mem x=some y/\WkD y t/\R t
 | _,_=>False
def argFr:Nat->List SV->Fr
 | _,[]=>[]
 | i,s :: l=>(i,s) :: argFr (i + 1) l
theorem argFr_spec {Γ:Gh}{ρ:Env}{nx:Nat} : ∀ (l:List SV) (i:Nat) (vs:List Value) (d:Nat) (s:SV),DenL Γ ρ l vs->bdL nx l=true->fnd (argFr i l) d=some s->i<=d/\∃ v,vs[d - i]? = some v/\Den Γ ρ s v/\s.bd nx=true
 | [],_,_,_,_,_,_,h=>by simp [argFr,fnd] at h
 | x :: l,i,vs,d,s,hd,hb,h=>by
  simp only [DenL] at hd
  obtain ⟨v,r,rfl,d1,d2⟩:=hd
  simp only [bdL,Bool.and_eq_true] at hb
  simp only [argFr,fnd_cons] at h
  split at h
  ·rename_i e; subst e; cases h
   exact ⟨Nat.le_refl _,v,by simp,d1,hb.1⟩
  ·rename_i hne
   obtain ⟨h1,u,h2,h3⟩:=argFr_spec l (i + 1) r d s d2 hb.2 h
   refine ⟨om,u,?_,h3⟩
   have:d - i=(d - (i + 1)) + 1:=om
   rw [this]; simpa using h2
theorem argFr_ok {Γ:Gh}{ρ:Env}{nx:Nat}{l:List SV}{vs:List Value}(hd:DenL Γ ρ l vs)(hb:bdL nx l=true)(hN:l.length<=N):FrDen Γ ρ nx N (argFr 0 l) { tmps:=vs.toArray++Array.replicate (N - vs.toArray.size) undef,defers:=[] } where
 size:=by
  have:=hd.length
  simp; omega
 slot d s h:=by
  obtain ⟨_,v,h1,h2,h3⟩:=argFr_spec l 0 vs d s hd hb h
  refine ⟨?_,h3⟩
  have hlt:d<vs.length:=(List.getElem?_eq_some_iff.1 (by simpa using h1)).1
  have:(vs.toArray++Array.replicate (N - vs.toArray.size) undef).getD d undef=v:=by
   rw [Array.getD_eq_getD_getElem?,Array.getElem?_append_left (by simpa using hlt)]
   simp at h1
   simp [h1]
  rw [this]; exact h2
def Closed (bs:List Nat)(w w':World):Prop:=w'.os=w.os/\w'.tape=w.tape/\w'.output=w.output/\w'.heap.size=w.heap.size/\∀ c,c∉bs->w'.heap[c]? = w.heap[c]?
theorem leaves_marks {F:Fence}{n:Nat}{fn:Func}{tmps:Array Value}{R:Ending->World->Prop} : ∀ (bs:List Nat) (w:World),bs.Nodup->(∀ b∈bs,w.heap[b]? = some (.deferred (some []))) ->
  (∀ w',Closed bs w w'->∃ v,(results fn tmps).run P w' = .ok v w'/\R (.returned v) w')->LeavesInM F n P fn tmps R (bs.map (fun b=>({ target:=.collected b,args:=#[] } : Deferred))) .returning w
 | [],w,_,_,h=>h w ⟨rfl,rfl,rfl,rfl,fun _ _=>rfl⟩
 | b :: bs,w,hn,hb,h=>by
  rw [List.nodup_cons] at hn
  have h1:=hb b (by simp)
  refine ⟨by simp,.inl ⟨b,w.putObj b (.deferred none),rfl,run_takeDeferred h1,leaves_marks bs _ hn.2 (fun c hc=>?_) (fun w' hw'=>h w' ?_)⟩⟩
  ·have hcb:c≠b:=fun e=>hn.1 (e ▸ hc)
   rw [World.putObj_heap_other hcb]; exact hb c (by simp [hc])
  ·obtain ⟨g1,g2,g3,g4,g5⟩:=hw'
   refine ⟨g1,g2,g3,g4.trans World.putObj_size,fun c hc=>?_⟩
   simp only [List.mem_cons,not_or] at hc
   rw [g5 c hc.2,World.putObj_heap_other hc.1]
theorem Closed.inv {Γ:Gh}{ρ:Env}{nx:Nat}{mem:Mem}{bs:List Nat}{w w':World}(h:Closed bs w w')(hb:∀ b∈bs,w.heap[b]? = some (.deferred (some [])))(hi:Inv Γ ρ nx mem w):Inv Γ ρ nx mem w' where
 pub b cs hc:=by
  obtain ⟨E,fz,e⟩:=hi.pub b cs hc
  exact ⟨E,fz,by rw [h.2.2.2.2 b (fun hm=>by rw [hb b hm] at e; cases e),e]⟩
 priv r B hB:=by
  obtain ⟨h1,h2,h3⟩:=hi.priv r B hB
  exact ⟨h1.move (Gh.le_refl _) (Env.same_refl nx ρ) h2 h3 (fun c hc=>⟨h.2.2.2.2 c (fun hm=>hi.not_owned (hb c hm) ⟨r,B,hB,hc⟩),id⟩),h2,h3⟩
 inj:=hi.inj
theorem Closed.ok {N:Nat}{Γ:Gh}{ρ:Env}{s:St}{bs:List Nat}{w w':World}{a:Act}(h:Closed bs w w')(hb:∀ b∈bs,w.heap[b]? = some (.deferred (some [])))(hok:Ok Γ ρ N s w a):Ok Γ ρ N s w' { a with defers:=[] } :=
 ⟨h.inv hb hok.inv,MkOk.nil (by rw [h.2.2.2.1]; exact hok.marks.1),hok.frame.size,hok.frame.slot⟩
theorem Closed.stp {ρ ρ':Env}{mem mem':Mem}{bs:List Nat}{w0 w w':World}(h:Closed bs w w')(hl:∀ b∈bs,w0.heap.size<=b)(hs:Stp ρ mem w0 ρ' mem' w):Stp ρ mem w0 ρ' mem' w' :=
 ⟨h.1.trans hs.os,h.2.1.trans hs.tape,h.2.2.1.trans hs.output,by rw [h.2.2.2.1]; exact hs.size,fun b hb ho=>(h.2.2.2.2 b (fun hm=>by have:=hl b hm; omega)).trans (hs.keep b hb ho),hs.own⟩
theorem Inv.relo {Γ:Gh}{ρ:Env}{nx:Nat}{mem:Mem}{w:World}(h:Inv Γ ρ nx mem w)(n:Nat):Inv (Γ.re n) ρ nx mem w where
 pub:=h.pub
 priv r B hB:=by
  obtain ⟨h1,h2,h3⟩:=h.priv r B hB
  refine ⟨?_,h2,h3⟩
  cases B with
  | cells l E=>obtain ⟨b,arr,g1,g2,g3,g4,g5⟩:=h1; exact ⟨b,arr,g1,g2,DenL.ext0 (Gh.sub_re Γ n) l _ (Env.same_refl nx ρ) h3 g3,g4,g5⟩
  | row z E xs =>
   obtain ⟨v,hv,g⟩:=h1
   refine ⟨v,hv,g.imp id fun ⟨b,arr,cap,k1,k2,k3,k4,k5,k6,k7,k8⟩=>⟨b,arr,cap,k1,k2,k3,k4,k5,DenE.ext0 (Gh.sub_re Γ n) z xs _ k6,k7,k8⟩⟩
  | mp p k es=>obtain ⟨b,arr,clock,g1,g2,g3,g4,g5⟩:=h1; exact ⟨b,arr,clock,g1,g2,g3,EntsOk.move (Gh.sub_re Γ n) (Env.same_refl nx ρ) h3 g4,g5⟩
  | lp nb q=>obtain ⟨g1,g2,tmps,dfr,g3,g4,g5⟩:=h1; exact ⟨g1,g2,tmps,dfr,g3,g4,fun d s hd=>⟨Den.ext0 (Gh.sub_re Γ n) s _ (Env.same_refl nb ρ) (g5 d s hd).2 (g5 d s hd).1,(g5 d s hd).2⟩⟩
 inj:=h.inj
theorem pub_of (hT:TabOk P T){f:Nat}{fn:Func}{c:Code}(hf:P.funcs[f]? = some fn)(hb:fn.body=some c)(hne:fn.name≠ "runtime.NumGoroutine"){args:List SV}{R:SV->Prop}(hN:args.length<=fn.ntmps)(hbd:bdL 0 args=true)
  (h:XW none P fn.ntmps 0 c (Back T fn.results R) ⟨argFr 0 args,[],0⟩):Pub P f args R:=by
 refine ⟨⟨fn,hf,hne,by rw [hb]; rfl⟩,fun Γ w vs hp hd=>?_⟩
 refine (callsIn_wide (n:=0)).1 (callsIn_of_wp_marks hf hb trivial ?_ rfl)
 have hinv:Inv (Γ.re w.heap.size) Env.nil 0 [] w:=⟨hp,fun r B hB=>by simp [fnd] at hB,fun r r' b B B' hB=>by simp [fnd] at hB⟩
 refine wpIn_mono (h (Γ.re w.heap.size) Env.nil w _ (Nat.le_refl _) ⟨hinv,MkOk.nil (Nat.le_refl _),argFr_ok (DenL.pub0 (Gh.sub_re Γ _) _ _ hd) hbd hN⟩) ?_
 rintro e a' w1 ⟨xe,Γ',ρ',s',rfl,hok1,hnxt1,hback⟩
 have key:(∃ x y t,xres T s' fn.results=some x/\pubS s'.mem x=some y/\WkD y t/\R t)->LeavesInM (fnc none) 0 P fn a'.tmps (fun e w'=>∃ v sv Γ',e = .returned v/\R sv/\Den Γ' Env.nil sv v/\PubOk Γ' w'/\Γ.le Γ'/\Below w.heap.size w w'/\∀ b,Γ' b≠none->Γ b≠none\/w.heap.size<=b) a'.defers .returning w1:=by
  rintro ⟨x,y,t,h1,h2,h3,h4⟩
  obtain ⟨_,bs,e1,e2,e3⟩:=hok1.marks
  rw [e1]
  refine leaves_marks bs w1 e2 (fun b hb=>(e3 b hb).2) fun w' hcl=>?_
  have hok:=hcl.ok (fun b hb=>(e3 b hb).2) hok1
  have hstp:=hcl.stp (w0:=w) (fun b hb=>by have:=(e3 b hb).1; rw [hnxt1.le.2] at this; exact this) hnxt1.stp
  obtain ⟨v,g1,g2,g3⟩:=xres_sound hT hok h1
  have g4:=pubS_sound hok.inv h2 g2
  refine ⟨v,g1,v,t,(Γ'.open' ρ' s'.mem w').re Γ.lo,rfl,h4,Den.pub0 (Gh.sub_re _ _) _ _ (h3 _ v g4),open_pub hok.inv,⟨fun b cs hb=>(open_le hok.inv).1 b cs (hnxt1.le.1 b cs hb),rfl⟩,?_,?_⟩
  ·exact ⟨hstp.os,hstp.tape,hstp.output,hstp.size,fun b hb=>hstp.keep b hb (fun ⟨r,B,hB,_⟩=>by simp [fnd] at hB)⟩
  ·intro b hb
   have hnxt:=hnxt1
   have hno:¬ Owned Env.nil [] b:=fun ⟨r,B,hB,_⟩=>by simp [fnd] at hB
   rcases open_new hb with hb | hb
   ·rcases hnxt.new b hb with hb | hb | hb
    ·exact .inl hb
    ·exact absurd hb hno
    ·exact .inr hb
   ·rcases hnxt.stp.own b hb with hb | hb
    ·exact absurd hb hno
    ·exact .inr hb
 cases xe with
 | normal=>exact key hback
 | ret=>exact key hback
 | exit i=>exact hback.elim
 | goto l=>exact hback.elim
end
end Go.Proofs.YtmmfpkkamgapkaaGreat.X
