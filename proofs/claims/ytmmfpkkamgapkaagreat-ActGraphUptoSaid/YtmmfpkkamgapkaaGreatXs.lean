/- From a contract to a law's row: the arguments are opened by their types' cells. -/
import Derived.Test.YtmmfpkkamgapkaaGreatXr
import Derived.ProofKit
import Derived.OpenShut
import Derived.SizedLaws
import Derived.Carry
namespace Go.Proofs.YtmmfpkkamgapkaaGreat.X
open Go Go.RowKit
mutual
def leavesOf (T:Tab):Nat->Nat->Option (List Nat)
 | 0,_=>none
 | d + 1,t=>match fnd T t with
  | some ti=>match ti.d with
   | .struct fs=>leavesF T d 0 ti.cells fs
   | .arr n e=>match leavesOf T d e,fnd T e with
    | some l,some ei=>match Nat.beq l.length ei.cells,Nat.beq (n * ei.cells) ti.cells with
     | true,true=>some (List.replicate n l).flatten
     | _,_=>none
    | _,_=>none
   | .other=>none
   | .map _ _=>none
   | _=>some [t]
  | none=>none
def leavesF (T:Tab):Nat->Nat->Nat->List (Nat×Nat)->Option (List Nat)
 | 0,_,_,_=>none
 | _ + 1,off,total,[]=>match Nat.beq off total with
  | true=>some []
  | false=>none
 | d + 1,off,total,(o,ft) :: fs=>match leavesOf T d ft,fnd T ft with
  | some l,some fi=>match Nat.beq o off,Nat.beq l.length fi.cells,leavesF T d (off + fi.cells) total fs with
   | true,true,some r=>some (l++r)
   | _,_,_=>none
  | _,_=>none
end
section
variable {H:Type} {enc:TypeId×Value->H} {P:Program} {T:Tab} {W:World}
abbrev RdTrod (enc:TypeId×Value->H)(P:Program)(W:World)(fuel t:Nat)(cs:List Value):=DataW.trod enc P W 0 (fun _=>true) true fuel t cs
def Rd (enc:TypeId×Value->H)(P:Program)(W:World)(B:Nat):List Nat->List Value->Prop
 | [],cs=>cs=[]
 | u :: us,cs=>∃ c r fuel y,cs=c :: r/\RdTrod enc P W fuel u [c]=some y/\(∀ q∈y.1.weights P u,q<=B)/\Rd enc P W B us r
theorem Rd.append {B:Nat} : ∀ {a b:List Nat} {x y:List Value},Rd enc P W B a x->Rd enc P W B b y->Rd enc P W B (a++b) (x++y)
 | [],b,x,y,hx,hy=>by cases hx; exact hy
 | u :: a,b,x,y,hx,hy=>by
  obtain ⟨c,r,f,z,rfl,h1,h2,h3⟩:=hx
  exact ⟨c,r++y,f,z,rfl,h1,h2,Rd.append h3 hy⟩
theorem TIok.cellsOf {t:Nat}{ti:TI}(h:TIok P t ti):P.cellsOf t=ti.cells:=by
 have hi:=h.info
 unfold Program.cellsOf
 cases hq:P.info? t with
 | none=>rw [hq] at hi; cases hi
 | some i=>rw [hq] at hi; simp at hi; simp [hi.1]
theorem weightsAll_mem {e:Nat} : ∀ {l:List (DataW H)} {x:DataW H} {q:Nat},x∈l->q∈x.weights P e->q∈DataW.weightsAll P e l
 | d :: r,x,q,hx,hq=>by
  simp only [DataW.weightsAll,List.mem_append]
  rcases List.mem_cons.1 hx with rfl | hx
  ·exact .inl hq
  ·exact .inr (weightsAll_mem hx hq)
theorem take_len {α:Type}(cs:List α)(n:Nat):cs=cs.take n++cs.drop n:=(List.take_append_drop n cs).symm
mutual
theorem leaves_rd (hT:TabOk P T){B:Nat} : ∀ (d t:Nat) (ts:List Nat),leavesOf T d t=some ts->∀ (fuel:Nat) (cs:List Value) (x:DataW H×List MemPlace),RdTrod enc P W fuel t cs=some x->(∀ q∈x.1.weights P t,q<=B)->Rd enc P W B ts cs
 | 0,_,_,h,_,_,_,_,_=>by simp [leavesOf] at h
 | d + 1,t,ts,h,fuel,cs,x,hx,hq=>by
  simp only [leavesOf] at h
  split at h
  ·rename_i ti hti
   have hok:=hT t ti hti
   have one:ts=[t]->(∃ c,cs=[c])->Rd enc P W B ts cs:=by
    rintro rfl ⟨c,rfl⟩
    exact ⟨c,[],fuel,x,rfl,hx,hq,rfl⟩
   split at h
   ·
    rename_i fs hd
    have hde:=hok.desc
    rw [hd] at hde
    simp only [DescOk] at hde
    cases hu:P.underlying t with
    | none=>rw [hu] at hde; cases hde
    | some D =>
     rw [hu] at hde
     cases D <;> simp only [Option.bind_some,structFs,Option.some.injEq,reduceCtorEq] at hde
     rename_i fa
     obtain ⟨xs,n,rfl,rfl,hlen,hxl,hf⟩:=DataW.trod_struct hu hx
     rw [hok.cellsOf] at hlen
     have key:=leavesF_rd hT (B:=B) d 0 ti.cells fs ts h fa.toList hde n cs xs (by simpa using hxl) hlen (fun i f hi=>hf i f (by simpa using hi)) ?_
     ·simpa using key
     ·intro i f y hi hy q hq2
      refine hq q ?_
      simp only [DataW.weights,hu]
      refine DataW.weights_mem_each (j:=i) (t:=f.type) (d:=y.1) ?_ ?_ q hq2
      ·rw [List.getElem?_map,hi]; rfl
      ·rw [List.getElem?_map,hy]; rfl
   ·
    rename_i n e hd
    have hde:P.underlying t=some (.array n e):=by have:=hok.desc; rwa [hd] at this
    split at h
    ·rename_i l ei hl hei
     split at h
     ·rename_i hb1 hb2
      cases h
      have hb1:=Nat.eq_of_beq_eq_true hb1; have hb2:=Nat.eq_of_beq_eq_true hb2
      obtain ⟨xs,m,rfl,rfl,hlen,hxl,hf⟩:=DataW.trod_array hde hx
      rw [hok.cellsOf,<- hb2] at hlen
      have hce:P.cellsOf e=ei.cells:=(hT e ei hei).cellsOf
      have hq':∀ y∈xs,∀ q∈y.1.weights P e,q<=B:=fun y hy q hq2=>by
       refine hq q ?_
       simp only [DataW.weights,hde]
       exact weightsAll_mem (List.mem_map_of_mem hy) hq2
      have key:∀ k,k<=n->Rd enc P W B (List.replicate k l).flatten (cs.take (k * ei.cells)):=by
       intro k
       induction k with
       | zero=>intro _; simp [Rd]
       | succ k ih =>
        intro hk
        have h1:=ih om
        have h2:=hf k om
        rw [hce] at h2
        have h3:=List.getElem?_eq_getElem (l:=xs) (i:=k) om
        rw [h3] at h2
        have h4:=leaves_rd hT (B:=B) d e l hl m _ _ h2 (hq' _ (List.getElem_mem _))
        rw [List.replicate_succ',List.flatten_append,List.flatten_singleton,Nat.succ_mul,List.take_add]
        exact h1.append h4
      have:=key n (Nat.le_refl _)
      rwa [List.take_of_length_le om] at this
     ·cases h
    ·cases h
   ·cases h
   ·cases h
   ·rename_i h1 h2 h3 h4
    cases h
    refine one rfl ?_
    cases hd:ti.d with
    | bool =>
     have hde:P.underlying t=some .bool:=by have:=hok.desc; rwa [hd] at this
     obtain ⟨b,rfl,_⟩:=DataW.trod_bool hde hx
     exact ⟨_,rfl⟩
    | int k =>
     have hde:P.underlying t=some (.int k):=by have:=hok.desc; rwa [hd] at this
     obtain ⟨b,rfl,_⟩:=DataW.trod_int hde hx
     exact ⟨_,rfl⟩
    | slice e =>
     have hde:P.underlying t=some (.slice e):=by have:=hok.desc; rwa [hd] at this
     rcases DataW.trod_slice hde hx with ⟨rfl,_⟩ | ⟨a,len,cap,_,_,_,_,rfl,_⟩ <;> exact ⟨_,rfl⟩
    | struct fs=>exact absurd hd (h1 fs)
    | arr n e=>exact absurd hd (h2 n e)
    | other=>exact absurd hd h3
    | map k e=>exact absurd hd (h4 k e)
  ·cases h
theorem leavesF_rd (hT:TabOk P T){B:Nat} : ∀ (d off total:Nat) (fs:List (Nat×Nat)) (ts:List Nat),leavesF T d off total fs=some ts->∀ (fa:List Field),fa.map (fun f=>(f.offset,f.type))=fs->∀ (n:Nat) (cs:List Value) (xs:List (DataW H×List MemPlace)),
  xs.length=fa.length->cs.length=total->(∀ (i:Nat) (f:Field),fa[i]? = some f->RdTrod enc P W n f.type ((cs.drop f.offset).take (P.cellsOf f.type))=xs[i]?)->(∀ (i:Nat) (f:Field) (y:DataW H×List MemPlace),fa[i]? = some f->xs[i]? = some y->∀ q∈y.1.weights P f.type,q<=B)->Rd enc P W B ts (cs.drop off)
 | 0,_,_,_,_,h,_,_,_,_,_,_,_,_,_=>by simp [leavesF] at h
 | d + 1,off,total,[],ts,h,fa,hfa,n,cs,xs,hl,hc,hf,hq=>by
  simp only [leavesF] at h
  split at h
  ·rename_i hb
   cases h
   have:=Nat.eq_of_beq_eq_true hb
   simp only [Rd]
   exact List.drop_eq_nil_of_le om
  ·cases h
 | d + 1,off,total,(o,ft) :: fs,ts,h,fa,hfa,n,cs,xs,hl,hc,hf,hq=>by
  simp only [leavesF] at h
  split at h
  ·rename_i l fi hl1 hfi
   split at h
   ·rename_i r hb1 hb2 hr
    cases h
    have hb1:=Nat.eq_of_beq_eq_true hb1; have hb2:=Nat.eq_of_beq_eq_true hb2
    cases fa with
    | nil=>cases hfa
    | cons f fa =>
     simp only [List.map_cons,List.cons.injEq,Prod.mk.injEq] at hfa
     obtain ⟨⟨ho,hft⟩,hrest⟩:=hfa
     cases xs with
     | nil=>cases hl
     | cons y xs =>
      have h0:=hf 0 f rfl
      have hce:P.cellsOf f.type=fi.cells:=by rw [hft]; exact (hT ft fi hfi).cellsOf
      rw [hce,ho,hb1] at h0
      have h1:=leaves_rd hT (B:=B) d ft l hl1 n _ _ (by rw [<- hft]; exact h0) (by rw [<- hft]; exact hq 0 f y rfl rfl)
      have h2:=leavesF_rd hT (B:=B) d (off + fi.cells) total fs r hr fa hrest n cs xs (by simpa using hl) hc (fun i f hi=>hf (i + 1) f hi) (fun i f y hi hy=>hq (i + 1) f y hi hy)
      rw [<- List.drop_drop] at h2
      have h3:=h1.append h2
      rwa [List.take_append_drop] at h3
   ·cases h
  ·cases h
end
inductive Lf where
 | bool | int (k:IntKind) | ints (k:IntKind) (bytes:Nat) | sl (agg:Bool) (z bytes:Nat) (ks:List Lf)
def natsEq:List Nat->List Nat->Bool
 | [],[]=>true
 | a :: l,b :: m=>match Nat.beq a b with
  | true=>natsEq l m
  | false=>false
 | _,_=>false
theorem natsEq_spec:∀ {l m:List Nat},natsEq l m=true->l=m
 | [],[],_=>rfl
 | a :: l,b :: m,h=>by
  simp only [natsEq] at h
  split at h
  ·rename_i hb; rw [Nat.eq_of_beq_eq_true hb,natsEq_spec h]
  ·cases h
def kindsBy (f:Nat->Option Lf):List Nat->Option (List Lf)
 | []=>some []
 | u :: us=>match f u,kindsBy f us with
  | some k,some r=>some (k :: r)
  | _,_=>none
def intOf (ti:TI):Option IntKind:=match ti.d,Nat.beq ti.cells 1 with
 | .int k,true=>some k
 | _,_=>none
def kindOf (T:Tab):Nat->Nat->Option Lf
 | 0,_=>none
 | d + 1,u=>match fnd T u with
  | some ti=>match ti.d with
   | .bool=>some .bool
   | .int k=>some (.int k)
   | .slice e=>match fnd T e with
    | some ei=>match intOf ei with
     | some k=>some (.ints k ei.bytes)
     | none=>match leavesOf T 24 e with
      | some ts=>match kindsBy (kindOf T d) ts,Nat.beq ts.length ei.cells,Nat.ble 1 ei.cells,(ei.agg || natsEq ts [e]) with
       | some ks,true,true,true=>some (.sl ei.agg ei.cells ei.bytes ks)
       | _,_,_,_=>none
      | none=>none
    | none=>none
   | _=>none
  | none=>none
def kindsOf (T:Tab)(ts:List Nat):Option (List Lf):=kindsBy (kindOf T 8) ts
def wrapL:Bool->List SV->SV
 | true,l=>.agg l
 | false,s :: _=>s
 | false,[]=>.junk
mutual
def Lv (B:Nat):Lf->SV->Prop
 | .bool,s=>∃ b,s = .bool b
 | .int k,s=>∃ n,s = .int k n/\(Lit.int k n).wf=true
 | .ints k z,s=>∃ ns:List Int,s = .sl false 1 (ns.map (SV.int k))/\(∀ n∈ns,(Lit.int k n).wf=true)/\ns.length * z<=B
 | .sl g z bytes ks,s=>∃ xs:List SV,s = .sl false z xs/\xs.length * bytes<=B/\∀ x∈xs,∃ l,x=wrapL g l/\LvAll B ks l
def LvAll (B:Nat):List Lf->List SV->Prop
 | [],l=>l=[]
 | k :: ks,l=>∃ s r,l=s :: r/\Lv B k s/\LvAll B ks r
end
theorem lift_map {α:Type}(f:α->SV)(Q:α->Prop):∀ {xs:List SV},(∀ x∈xs,∃ a,x=f a/\Q a)->∃ as:List α,xs=as.map f/\∀ a∈as,Q a
 | [],_=>⟨[],rfl,fun _ h=>by cases h⟩
 | x :: xs,h=>by
  obtain ⟨a,rfl,ha⟩:=h _ List.mem_cons_self
  obtain ⟨as,rfl,hs⟩:=lift_map f Q (fun y hy=>h y (List.mem_cons_of_mem _ hy))
  exact ⟨a :: as,rfl,fun b hb=>by
   rcases List.mem_cons.1 hb with rfl | hb
   ·exact ha
   ·exact hs b hb⟩
def Gh0 (W:World):Gh:=⟨fun b=>match W.heap[b]? with
 | some (.cells arr _ _)=>some arr.toList
 | _=>none,0⟩
theorem gh0_ok (W:World):PubOk (Gh0 W) W:=fun b cs h=>by
 simp only [Gh0] at h
 split at h
 ·rename_i arr E fz hq
  cases h
  exact ⟨E,fz,by simp [hq]⟩
 ·cases h
theorem cell_block {a:Addr}{v:Value}(h:W.cell? a=some v):∃ arr E fz,W.heap[a.block]? = some (.cells arr E fz)/\a.spot=none/\arr[a.off]? = some v:=by
 unfold World.cell? at h
 split at h
 ·rename_i c E fz hb
  split at h
  ·cases h
  ·rename_i hs
   exact ⟨c,E,fz,hb,by simpa using hs,h⟩
 ·cases h
theorem cells_get {a:Addr}{n:Nat}{cs:List Value}(h:W.cells? 0 a n=some cs):cs.length=n/\∀ i,i<n->W.cell? (a.add i)=cs[i]?:=by
 unfold World.cells? at h
 rw [if_pos (Nat.zero_le _)] at h
 exact ⟨by simpa using mapM_some_length h,fun i hi=>mapM_some_get h i i (by simp [hi])⟩
theorem weights_elem {e:Nat}{xs:List (DataW H×List MemPlace)}{i:Nat}{y:DataW H×List MemPlace}(h:xs[i]? = some y){q:Nat}(hq:q∈y.1.weights P e):q∈DataW.weightsAll P e (xs.map (·.1)) :=
 weightsAll_mem (List.mem_map_of_mem (List.mem_of_getElem? h)) hq
theorem DenL.length' {Γ:Gh}{ρ:Env} : ∀ {l:List SV} {vs:List Value},DenL Γ ρ l vs->l.length=vs.length
 | [],vs,h=>by simp only [DenL] at h; subst h; rfl
 | s :: l,vs,h=>by
  simp only [DenL] at h
  obtain ⟨v,r,rfl,_,h⟩:=h
  simp [DenL.length' h]
def LeafAt (enc:TypeId×Value->H)(P:Program)(W:World)(B:Nat)(f:Nat->Option Lf):Prop :=
 ∀ {u fuel:Nat} {k:Lf} {c:Value} {y:DataW H×List MemPlace},f u=some k->RdTrod enc P W fuel u [c]=some y->(∀ q∈y.1.weights P u,q<=B)->∃ s,Lv B k s/\Den (Gh0 W) Env.nil s c/\s.single=true
theorem open_by {B:Nat}{f:Nat->Option Lf}(hf:LeafAt enc P W B f):∀ (ts:List Nat) (ks:List Lf) (cs:List Value),kindsBy f ts=some ks->Rd enc P W B ts cs ->
  ∃ l,LvAll B ks l/\DenL (Gh0 W) Env.nil l cs/\l.all SV.single=true
 | [],ks,cs,hk,hr=>by
  simp only [kindsBy,Option.some.injEq] at hk
  subst hk
  simp only [Rd] at hr
  subst hr
  exact ⟨[],by simp only [LvAll],by simp only [DenL],rfl⟩
 | u :: ts,ks,cs,hk,hr=>by
  simp only [kindsBy] at hk
  split at hk
  ·rename_i k r hk1 hk2
   cases hk
   obtain ⟨c,r',fuel,y,rfl,h1,h2,h3⟩:=hr
   obtain ⟨s,g1,g2,g5⟩:=hf hk1 h1 h2
   obtain ⟨l,g3,g4,g6⟩:=open_by hf ts r r' hk2 h3
   exact ⟨s :: l,by simp only [LvAll]; exact ⟨s,l,rfl,g1,g3⟩,by simp only [DenL]; exact ⟨c,r',rfl,g2,g4⟩,by simp [g5,g6]⟩
  ·cases hk
theorem row_open {B z:Nat}{g:Bool}{ks:List Lf}{arr:Array Value}{ao cap:Nat}(hel:∀ i,i<cap->∃ row:List Value,row.length=z/\(∀ j,j<z->arr[ao + i * z + j]? = row[j]?)/\∃ l,LvAll B ks l/\∃ v,Den (Gh0 W) Env.nil (wrapL g l) v/\v.cells.size=z/\v.cells.toList=row) :
  ∀ (m j:Nat),j + m<=cap->∃ xs:List SV,xs.length=m/\(∀ x∈xs,∃ l,x=wrapL g l/\LvAll B ks l)/\DenE (Gh0 W) z xs (arr.toList.drop (ao + j * z))
 | 0,j,_=>⟨[],rfl,fun _ h=>absurd h List.not_mem_nil,by simp only [DenE]⟩
 | m + 1,j,hj=>by
  obtain ⟨xs,h1,h2,h3⟩:=row_open hel m (j + 1) om
  obtain ⟨row,r1,r2,l,r3,v,r4,r5,r6⟩:=hel j om
  refine ⟨wrapL g l :: xs,by simp [h1],fun x hx=>?_,?_⟩
  ·rcases List.mem_cons.1 hx with rfl | hx
   ·exact ⟨l,rfl,r3⟩
   ·exact h2 x hx
  ·simp only [DenE]
   refine ⟨⟨v,r4,r5,?_⟩,?_⟩
   ·rw [r6]
    refine List.ext_getElem? fun i=>?_
    by_cases hi:i<z
    ·rw [List.getElem?_take_of_lt hi,List.getElem?_drop,<- r2 i hi]; simp
    ·rw [List.getElem?_eq_none om,List.getElem?_take,if_neg hi]
   ·rw [List.drop_drop,show ao + j * z + z=ao + (j + 1) * z by rw [Nat.add_mul]; omega]
    exact h3
theorem leaf_ok (hT:TabOk P T){B:Nat} : ∀ d:Nat,LeafAt enc P W B (kindOf T d)
 | 0,_,_,_,_,_,hk,_,_=>by simp [kindOf] at hk
 | d + 1,u,fuel,k,c,y,hk,h,hq=>by
  have ih:LeafAt enc P W B (kindOf T d):=fun h1 h2 h3=>leaf_ok hT (B:=B) d h1 h2 h3
  simp only [kindOf] at hk
  split at hk
  ·rename_i ti hti
   have hok:=hT u ti hti
   split at hk
   ·rename_i hd
    cases hk
    have hde:P.underlying u=some .bool:=by have:=hok.desc; rwa [hd] at this
    obtain ⟨b,e,_⟩:=DataW.trod_bool hde h
    cases e
    exact ⟨.bool b,by simp only [Lv]; exact ⟨b,rfl⟩,by simp only [Den],rfl⟩
   ·rename_i k hd
    cases hk
    have hde:P.underlying u=some (.int k):=by have:=hok.desc; rwa [hd] at this
    obtain ⟨n,e,_,hw⟩:=DataW.trod_int hde h
    cases e
    exact ⟨.int k n,by simp only [Lv]; exact ⟨n,rfl,hw⟩,by simp only [Den],rfl⟩
   ·rename_i e hd
    have hde:P.underlying u=some (.slice e):=by have:=hok.desc; rwa [hd] at this
    split at hk
    ·rename_i ei hei
     have heok:=hT e ei hei
     have hce:P.cellsOf e=ei.cells:=heok.cellsOf
     have hbe:P.bytesOf e=ei.bytes:=by
      have hi:=heok.info
      unfold Program.bytesOf
      cases hq:P.info? e with
      | none=>rw [hq] at hi; cases hi
      | some i=>rw [hq] at hi; simp at hi; simp [hi.2]
     have main:∀ (g:Bool) (ks:List Lf),1<=ei.cells ->
       (∀ (n:Nat) (row:List Value) (x:DataW H×List MemPlace),row.length=ei.cells->RdTrod enc P W n e row=some x->(∀ q∈x.1.weights P e,q<=B)->∃ l,LvAll B ks l/\∃ v,Den (Gh0 W) Env.nil (wrapL g l) v/\v.cells.size=ei.cells/\v.cells.toList=row) ->
       ∃ xs:List SV,xs.length * ei.bytes<=B/\(∀ x∈xs,∃ l,x=wrapL g l/\LvAll B ks l)/\Den (Gh0 W) Env.nil (.sl false ei.cells xs) c:=by
      intro g ks hz hrow
      rcases DataW.trod_slice hde h with ⟨e1,_⟩ | ⟨a,len,cap,elems,rest,n,_,e1,rfl,_,hlc,_,hlen,hel,hsp,_⟩
      ·cases e1
       exact ⟨[],by simp,fun _ h=>absurd h List.not_mem_nil,by simp [Den]⟩
      ·cases e1
       obtain ⟨hrl,hsp⟩:=hsp rfl
       rw [hce] at hel hsp
       have hall:∀ i,i<cap->∃ row,W.cells? 0 (a.add (i * ei.cells)) ei.cells=some row/\∃ x,RdTrod enc P W n e row=some x/\∀ q∈x.1.weights P e,q<=B:=by
        intro i hi
        by_cases hil:i<len
        ·have h1:=hel i hil
         rw [List.getElem?_eq_getElem om] at h1
         obtain ⟨row,h2,h3⟩:=Option.bind_eq_some_iff.1 h1
         refine ⟨row,h2,_,h3,fun q hq2=>hq q ?_⟩
         simp only [DataW.weights,hde]
         exact List.mem_cons_of_mem _ (List.mem_append_left _ (weights_elem (List.getElem?_eq_getElem om) hq2))
        ·have h1:=hsp (i - len) om
         rw [List.getElem?_eq_getElem om,show len + (i - len)=i by omega] at h1
         obtain ⟨row,h2,h3⟩:=Option.bind_eq_some_iff.1 h1
         refine ⟨row,h2,_,h3,fun q hq2=>hq q ?_⟩
         simp only [DataW.weights,hde]
         exact List.mem_cons_of_mem _ (List.mem_append_right _ (weights_elem (List.getElem?_eq_getElem om) hq2))
       have hw:len * ei.bytes<=B:=by
        have h1:=hq ((elems.length + rest.length) * P.bytesOf e) (by simp only [DataW.weights,hde,List.length_map]; exact List.mem_cons_self)
        rw [hbe] at h1
        exact Nat.le_trans (Nat.mul_le_mul_right _ om) h1
       by_cases hc0:cap=0
       ·have hl0:len=0:=om
        subst hc0; subst hl0
        exact ⟨[],by simp,fun _ h=>absurd h List.not_mem_nil,by simp [Den]⟩
       ·obtain ⟨row0,h0,_⟩:=hall 0 om
        obtain ⟨h0l,h0c⟩:=cells_get h0
        have h00:=h0c 0 om
        rw [List.getElem?_eq_getElem om] at h00
        obtain ⟨arr,E,fz,hblk,hspot,_⟩:=cell_block h00
        obtain ⟨ab,ao,as⟩:=a
        have hsp0:as=none:=by simpa [Addr.add] using hspot
        subst hsp0
        simp only [add_addr] at hblk
        have hcell:∀ o v,W.cell? ⟨ab,o,none⟩=some v->arr[o]? = some v:=fun o v h=>by
         obtain ⟨arr2,E2,fz2,h1,_,h2⟩:=cell_block h
         simp only at h1 h2
         rw [hblk] at h1; cases h1; exact h2
        have hel2:∀ i,i<cap->∃ row:List Value,row.length=ei.cells/\(∀ j,j<ei.cells->arr[ao + i * ei.cells + j]? = row[j]?)/\∃ l,LvAll B ks l/\∃ v,Den (Gh0 W) Env.nil (wrapL g l) v/\v.cells.size=ei.cells/\v.cells.toList=row:=by
         intro i hi
         obtain ⟨row,r1,x,r2,r3⟩:=hall i hi
         obtain ⟨r4,r5⟩:=cells_get r1
         refine ⟨row,r4,fun j hj=>?_,hrow n row x r4 r2 r3⟩
         have h1:=r5 j hj
         rw [List.getElem?_eq_getElem om] at h1 ⊢
         simp only [add_addr] at h1
         exact hcell _ _ h1
        obtain ⟨xs,x1,x2,x3⟩:=row_open hel2 len 0 om
        refine ⟨xs,by rw [x1]; exact hw,x2,?_⟩
        simp only [Den]
        refine .inr ⟨ab,ao,cap,arr.toList,by rw [x1],om,by simp,by simp [Gh0,hblk],?_,by simpa using x3⟩
        obtain ⟨row,r1,r2,_⟩:=hel2 (cap - 1) om
        have h1:=r2 (ei.cells - 1) om
        rw [List.getElem?_eq_getElem om] at h1
        have h2:=(Array.getElem?_eq_some_iff.1 h1).1
        have h3:(cap - 1) * ei.cells + ei.cells=cap * ei.cells:=by
         rw [<- Nat.succ_mul]; congr 1; omega
        simp only [Array.length_toList]
        omega
     split at hk
     ·rename_i k hik
      cases hk
      unfold intOf at hik
      split at hik
      ·rename_i k' hek hz
       cases hik
       have hz:=Nat.eq_of_beq_eq_true hz
       have hee:P.underlying e=some (.int k):=by have:=heok.desc; rwa [hek] at this
       obtain ⟨xs,h1,h2,h3⟩:=main false [.int k] om (fun n row x hl hx hqx=>by
        obtain ⟨m,e1,_,hw⟩:=DataW.trod_int hee hx
        subst e1
        exact ⟨[.int k m],by simp only [LvAll,Lv]; exact ⟨_,_,rfl,⟨m,rfl,hw⟩,rfl⟩,.int k m,by simp only [wrapL,Den],by rw [hz]; rfl,rfl⟩)
       obtain ⟨ns,rfl,hns⟩:=lift_map (SV.int k) (fun n=>(Lit.int k n).wf=true) (xs:=xs) (fun x hx=>by
        obtain ⟨l,rfl,hl⟩:=h2 x hx
        simp only [LvAll,Lv] at hl
        obtain ⟨_,_,rfl,⟨m,rfl,hw⟩,rfl⟩:=hl
        exact ⟨m,rfl,hw⟩)
       rw [hz] at h3
       exact ⟨_,by simp only [Lv]; exact ⟨ns,rfl,hns,by simpa using h1⟩,h3,rfl⟩
      ·cases hik
     ·split at hk
      ·rename_i ts hts
       split at hk
       ·rename_i ks hks hlen hz hag
        cases hk
        have hz:=Nat.le_of_ble_eq_true hz
        have hlen:=Nat.eq_of_beq_eq_true hlen
        obtain ⟨xs,h1,h2,h3⟩:=main ei.agg ks hz (fun n row x hl hx hqx=>by
         have hrd:=leaves_rd hT (B:=B) 24 e ts hts n row x hx hqx
         obtain ⟨l,g1,g2,g3⟩:=open_by ih ts ks row hks hrd
         refine ⟨l,g1,?_⟩
         cases ha:ei.agg with
         | true=>exact ⟨.agg row.toArray,by simp only [wrapL,Den]; exact ⟨row.toArray,rfl,by simpa using g2⟩,by simp [Value.cells,hl],by simp [Value.cells]⟩
         | false =>
          rw [ha] at hag
          have he:=natsEq_spec (by simpa using hag)
          subst he
          simp only [List.length_singleton] at hlen
          have hll:=DenL.length' g2
          match l,row,g2,g3 with
          | [s],[v],g2,g3 =>
           simp only [DenL] at g2
           obtain ⟨v',r',e2,g4,_⟩:=g2
           cases e2
           have h1:=cells_of_one (g4.single (by simpa using g3))
           exact ⟨v,g4,by rw [h1,<- hlen]; rfl,by rw [h1]⟩
          | [],[],_,_=>simp at hl; omega
          | _ :: _ :: _,_,_,_=>simp at hll hl; omega
          | [_],_ :: _ :: _,_,_=>simp at hll
          | [_],[],_,_=>simp at hll
          | [],_ :: _,_,_=>simp at hll)
        exact ⟨_,by simp only [Lv]; exact ⟨xs,rfl,h1,h2⟩,h3,rfl⟩
       ·cases hk
      ·cases hk
    ·cases hk
   ·cases hk
  ·cases hk
theorem open_cells (hT:TabOk P T){B:Nat}(ts:List Nat)(ks:List Lf)(cs:List Value)(hk:kindsOf T ts=some ks)(hr:Rd enc P W B ts cs) :
  ∃ l,LvAll B ks l/\DenL (Gh0 W) Env.nil l cs:=by
 obtain ⟨l,h1,h2,_⟩:=open_by (leaf_ok hT 8) ts ks cs hk hr
 exact ⟨l,h1,h2⟩
theorem Rd.length {B:Nat} : ∀ {ts:List Nat} {cs:List Value},Rd enc P W B ts cs->cs.length=ts.length
 | [],cs,h=>by cases h; rfl
 | u :: ts,cs,h=>by
  obtain ⟨c,r,_,_,rfl,_,_,h3⟩:=h
  simp [Rd.length h3]
def shapeOf (P:Program)(T:Tab)(d t:Nat):Option (Bool×List Lf) :=
 match fnd T t,leavesOf T d t with
 | some ti,some ts=>match kindsOf T ts,ti.agg with
  | some ks,true=>match P.cellTypes P.depth t with
   | some us=>match natsEq us ts with
    | true=>some (true,ks)
    | false=>none
   | none=>none
  | some ks,false=>match natsEq ts [t] with
   | true=>some (false,ks)
   | false=>none
  | none,_=>none
 | _,_=>none
def shapesOf (P:Program)(T:Tab)(d:Nat):List Nat->Option (List (Bool×List Lf))
 | []=>some []
 | t :: ts=>match shapeOf P T d t,shapesOf P T d ts with
  | some x,some r=>some (x :: r)
  | _,_=>none
def ArgsLv (B:Nat):List (Bool×List Lf)->List SV->Prop
 | [],l=>l=[]
 | (true,ks) :: r,l=>∃ x m,l = .agg x :: m/\LvAll B ks x/\ArgsLv B r m
 | (false,ks) :: r,l=>∃ s m,l=s :: m/\LvAll B ks [s]/\ArgsLv B r m
theorem open_val (hT:TabOk P T){B base d t:Nat}{b:Bool}{ks:List Lf}(h:shapeOf P T d t=some (b,ks)){v:Value}{dd:DataW H}{ps:List MemPlace}(hv:Value.okWide P W .any base t v)(hr:DataW.Trod enc P W 0 (fun _=>true) true t v dd ps)(hq:∀ q∈dd.weights P t,q<=B) :
  (b=true->∃ l,LvAll B ks l/\Den (Gh0 W) Env.nil (.agg l) v)/\(b=false->∃ s,LvAll B ks [s]/\Den (Gh0 W) Env.nil s v):=by
 unfold shapeOf at h
 split at h
 ·rename_i ti ts hti hts
  have hok:=hT t ti hti
  obtain ⟨fuel,hf⟩:=hr
  have hrd:=leaves_rd hT (B:=B) d t ts hts fuel _ _ hf hq
  split at h
  ·rename_i ks' hk hagg
   split at h
   ·rename_i us hus
    split at h
    ·rename_i he
     cases h
     have he:=natsEq_spec he
     subst he
     refine ⟨fun _=>?_,fun e=>by cases e⟩
     have hu:=hok.und
     rw [hagg] at hu
     obtain ⟨cs,rfl,hsz,hrow⟩ : ∃ cs,v = .agg cs/\cs.size=P.cellsOf t/\Row.okWide P W .any base t cs:=by
      unfold Value.okWide at hv
      cases hD:P.underlying t with
      | none=>rw [hD] at hu; cases hu
      | some D =>
       rw [hD] at hu hv
       cases D <;> first | exact hv | (simp [isAggD] at hu)
     obtain ⟨us',hus',_,hcell⟩:=hrow
     rw [hus] at hus'
     cases hus'
     have hcells:(Value.agg cs).cells=cs:=rfl
     rw [hcells] at hrd
     obtain ⟨l,h1,h2⟩:=open_cells hT us ks cs.toList hk hrd
     exact ⟨l,h1,by simp only [Den]; exact ⟨cs,rfl,h2⟩⟩
    ·cases h
   ·cases h
  ·rename_i ks' hk hagg
   split at h
   ·rename_i he
    cases h
    have he:=natsEq_spec he
    subst he
    refine ⟨fun e=>by (cases e),fun _=>?_⟩
    have hu:=hok.und
    rw [hagg] at hu
    have hv':Cell.okWide P W .any base t v:=by
     unfold Value.okWide at hv
     cases hD:P.underlying t with
     | none=>rw [hD] at hu; cases hu
     | some D =>
      rw [hD] at hu hv
      cases D <;> first | exact hv | (simp [isAggD] at hu)
    have hrd2:=hrd
    obtain ⟨c,r,fuel',y,hc,h1,h2,h3⟩:=hrd2
    simp only [Rd] at h3
    subst h3
    have hone:v.cells = #[v]:=by
     cases v with
     | agg cs =>
      exfalso
      unfold Cell.okWide at hv'
      cases hD:P.underlying t with
      | none=>rw [hD] at hv'; simp [Cell.ok,hD] at hv'
      | some D=>rw [hD] at hv'; cases D <;> simp [Cell.ok,hD] at hv'
     | _=>rfl
    rw [hone] at hc hrd
    cases hc
    obtain ⟨l,g1,g2⟩:=open_cells hT [t] ks [v] hk hrd
    match l,g2 with
    | [s],g2 =>
     simp only [DenL] at g2
     obtain ⟨v',r',e,h5,_⟩:=g2
     cases e
     exact ⟨s,g1,h5⟩
    | [],g2=>simp [DenL] at g2
    | s1 :: s2 :: l',g2 =>
     have:=DenL.length g2
     simp at this
   ·cases h
  ·cases h
 ·cases h
theorem open_args (hT:TabOk P T){B base d:Nat} : ∀ (ps:List Nat) (sh:List (Bool×List Lf)) (vs:List Value) (ds:List (DataW H)) (pl:List MemPlace),shapesOf P T d ps=some sh->DataW.TrodAll enc P W 0 (fun _=>true) true ps vs ds pl->(∀ (j:Nat) t v,ps[j]? = some t->vs[j]? = some v->Value.okWide P W .any base t v) ->
  (∀ q∈DataW.weightsEach P ps ds,q<=B)->∃ l,ArgsLv B sh l/\DenL (Gh0 W) Env.nil l vs
 | [],sh,vs,ds,pl,hs,ht,_,_=>by
  simp only [shapesOf,Option.some.injEq] at hs
  subst hs
  cases vs <;> cases ds <;> simp only [DataW.TrodAll] at ht
  exact ⟨[],rfl,by simp only [DenL]⟩
 | t :: ps,sh,vs,ds,pl,hs,ht,hv,hq=>by
  simp only [shapesOf] at hs
  split at hs
  ·rename_i x r hx hr
   cases hs
   cases vs with
   | nil=>simp only [DataW.TrodAll] at ht
   | cons v vs =>
    cases ds with
    | nil=>simp only [DataW.TrodAll] at ht
    | cons dd ds =>
     obtain ⟨p,q,h1,h2,rfl⟩:=ht
     obtain ⟨b,ks⟩:=x
     have hq1:∀ q∈dd.weights P t,q<=B:=fun q hq2=>hq q (by simp only [DataW.weightsEach,List.mem_append]; exact .inl hq2)
     have hq2:∀ q∈DataW.weightsEach P ps ds,q<=B:=fun q hq2=>hq q (by simp only [DataW.weightsEach,List.mem_append]; exact .inr hq2)
     obtain ⟨g1,g2⟩:=open_val hT hx (hv 0 t v rfl rfl) h1 hq1
     obtain ⟨l,g3,g4⟩:=open_args hT ps r vs ds q hr h2 (fun j t v ht hv2=>hv (j + 1) t v ht hv2) hq2
     cases b with
     | true =>
      obtain ⟨m,k1,k2⟩:=g1 rfl
      exact ⟨.agg m :: l,⟨m,l,rfl,k1,g3⟩,by simp only [DenL]; exact ⟨v,vs,rfl,k2,g4⟩⟩
     | false =>
      obtain ⟨s,k1,k2⟩:=g2 rfl
      exact ⟨s :: l,⟨s,l,rfl,k1,g3⟩,by simp only [DenL]; exact ⟨v,vs,rfl,k2,g4⟩⟩
  ·cases hs
theorem trodAll_below (hl:laidOutB P=true){W':World}(hb:Below W.heap.size W W'):∀ {ts:List Nat} {vs:List Value} {ds:List (DataW H)} {ps:List MemPlace},(∀ t∈ts,P.readableRec t=true/\t<P.types.size)->DataW.TrodAll enc P W 0 (fun _=>true) true ts vs ds ps->(∀ x∈ps,x.block<W.heap.size) ->
  DataW.TrodAll enc P W' 0 (fun b=>decide (b<W.heap.size)) true ts vs ds ps
 | [],vs,ds,ps,_,h,_=>by
  cases vs <;> cases ds <;> simp only [DataW.TrodAll] at h ⊢
  exact h
 | t :: ts,vs,ds,ps,hr,h,hlt=>by
  cases vs with
  | nil=>simp only [DataW.TrodAll] at h
  | cons v vs =>
   cases ds with
   | nil=>simp only [DataW.TrodAll] at h
   | cons d ds =>
    obtain ⟨p,q,h1,h2,rfl⟩:=h
    obtain ⟨r1,r2⟩:=hr t (by simp)
    exact ⟨p,q,Below.trod hl r1 r2 h1 hb (fun x hx=>hlt x (by simp [hx])),trodAll_below hl hb (fun t ht=>hr t (by simp [ht])) h2 (fun x hx=>hlt x (by simp [hx])),rfl⟩
theorem Lv_i (B:Nat)(k:IntKind)(s:SV):Lv B (.int k) s = ∃ n,s = .int k n/\(Lit.int k n).wf=true:=by simp only [Lv]
theorem Lv_n (B:Nat)(k:IntKind)(z:Nat)(s:SV):Lv B (.ints k z) s = ∃ ns:List Int,s = .sl false 1 (ns.map (SV.int k))/\(∀ n∈ns,(Lit.int k n).wf=true)/\ns.length * z<=B:=by simp only [Lv]
theorem law_postB {B:Nat}(hT:TabOk P T)(hlaid:laidOutB P=true){f:Nat}{fn:Func}{s:ChangeSpec}{tb d:Nat}{sh:List (Bool×List Lf)}{before:List MemPlace}{args:Array Value}{base:Nat}{ds gs:List (DataW H)}
  (hres:fn.resultTypes = #[tb]) (hbool:P.underlying tb=some .bool) (hvars:s.vars=[]) (hsh:shapesOf P T d fn.params.toList=some sh) (hrow:(fn.params.toList.all fun t=>P.readableRec t && Nat.blt t P.types.size)=true)
  (hfn0:∀ ds:List (DataW H),ds.length=fn.params.size->(s.fn H ds) = { results:=[.lit (.bool true)],args:=ds })
  (hval:∀ (j:Nat) t v,fn.params[j]? = some t->args[j]? = some v->Value.okWide P W .any base t v)
  (hW:DataW.Whole enc P fn.params.toList s.vars false W args.toList ds gs before)
  (hsz':∀ q∈DataW.weightsEach P fn.params.toList ds,q<=B)
  (hlaw:∀ l,ArgsLv B sh l->Pub P f l (fun t=>t = .bool true)) :
  Calls P f args W fun e W'=>∃ v,e = .returned v/\s.post enc P fn false true false false W args v W':=by
 have hW0:=hW
 obtain ⟨p,q,hA,hV,rfl,_,_⟩:=hW
 have hfn:(s.fn H ds) = { results:=[.lit (.bool true)],args:=ds }:=hfn0 ds (by
  have hl:∀ (ts:List Nat) (vs:List Value) (ds:List (DataW H)) (ps:List MemPlace),DataW.TrodAll enc P W 0 (fun _=>true) true ts vs ds ps->ds.length=ts.length:=by
   intro ts
   induction ts with
   | nil=>intro vs ds ps h; cases vs <;> cases ds <;> simp only [DataW.TrodAll] at h; rfl
   | cons t ts ih =>
    intro vs ds ps h
    cases vs with
    | nil=>simp only [DataW.TrodAll] at h
    | cons v vs =>
     cases ds with
     | nil=>simp only [DataW.TrodAll] at h
     | cons d ds =>
      obtain ⟨p,q',h1,h2,_⟩:=h
      simp [ih vs ds q' h2]
  simpa using hl _ _ _ _ hA)
 obtain ⟨l,h1,h2⟩:=open_args hT fn.params.toList sh args.toList ds p hsh hA (fun j t v ht hv=>hval j t v (by simpa using ht) (by simpa using hv)) hsz'
 have hcall:=(hlaw l h1).2 (Gh0 W) W args.toList (gh0_ok W) h2
 rw [Array.toArray_toList] at hcall
 refine hcall.mono ?_
 rintro e W' ⟨v,sv,Γ',rfl,rfl,hden,_,_,hbel,_⟩
 simp only [Den] at hden
 subst hden
 have hlt:∀ x∈p,x.block<W.heap.size:=fun x hx=>by
  have:=hW0.lt x (by simp [hx])
  simpa using this
 have hg:gs=[]/\q=[]:=by
  rw [hvars] at hV
  cases gs with
  | nil=>exact ⟨rfl,hV⟩
  | cons g gs=>exact hV.elim
 obtain ⟨rfl,rfl⟩:=hg
 refine ⟨_,rfl,ds,[],p++[],[],p,[],hW0,?_,?_,?_,hbel.frame _,fun h=>by cases h⟩
 ·rw [List.append_nil,hfn,hres]
  exact ⟨[],[],⟨1,by simp [DataW.trod,hbool,Value.cells]⟩,rfl,rfl⟩
 ·rw [List.append_nil,hfn]
  refine trodAll_below hlaid hbel (fun t ht=>?_) hA hlt
  have:=List.all_eq_true.1 hrow t ht
  simpa using this
 ·rw [hvars,List.append_nil,hfn]; rfl
theorem len2 {α:Type}{l:List α}(h:l.length=2):∃ a b,l=[a,b]:=by
 match l,h with
 | [a,b],_=>exact ⟨a,b,rfl⟩
end
end Go.Proofs.YtmmfpkkamgapkaaGreat.X
