/- The operations,part 5: the rest; the runner over a region's operations. -/
import Derived.Test.YtmmfpkkamgapkaaGreatXe
import Derived.Great.BuildSlice
namespace Go.Proofs.YtmmfpkkamgapkaaGreat.X
open Go Go.RowKit
mutual
def eqv (T:Tab):Nat->Nat->List SV->List SV->Option Bool
  | 0,_,_,_=>none
  | d + 1,t,xs,ys=>match fnd T t with
    | some ti=>match ti.d with
      | .int k=>match xs,ys with
        | [.int k1 a],[.int k2 b]=>match k,k1,k2 with
          | .i64,.i64,.i64=>some (a == b)
          | .u64,.u64,.u64=>some (a == b)
          | _,_,_=>none
        | _,_=>none
      | .bool=>match xs,ys with
        | [.bool a],[.bool b]=>some (a == b)
        | _,_=>none
      | .struct fs=>match ti.eq with
        | true=>eqvF T d fs xs ys
        | false=>none
      | _=>none
    | none=>none
def eqvF (T:Tab):Nat->List (Nat×Nat)->List SV->List SV->Option Bool
  | 0,_,_,_=>none
  | _,[],_,_=>some true
  | d + 1,(o,ft) :: fs,xs,ys=>match fnd T ft with
    | some fi=>match Nat.ble (o + fi.cells) xs.length,Nat.ble (o + fi.cells) ys.length,(match fi.agg with | true=>true | false=>Nat.beq fi.cells 1) with
      | true,true,true=>match eqv T d ft ((xs.drop o).take fi.cells) ((ys.drop o).take fi.cells),eqvF T d fs xs ys with
        | some a,some b=>some (a && b)
        | _,_=>none
      | _,_,_=>none
    | none=>none
end
section
variable {P:Program} {T:Tab}
def ValOf (ti:TI)(cs:List Value)(v:Value):Prop:=if ti.agg=true then v = .agg cs.toArray else cs=[v]
theorem run_part {t:Nat}{ti:TI}(ht:TIok P t ti)(cs:Array Value)(off:Nat)(hle:off + ti.cells<=cs.size)(h1:ti.agg=true\/ti.cells=1)(w:World) :
    ∃ v,(part t cs off).run P w = .ok v w/\ValOf ti ((cs.toList.drop off).take ti.cells) v:=by
  unfold part ValOf
  cases ha:ti.agg with
  | true =>
    refine ⟨.agg (cs.extract off (off + ti.cells)),by simp [ht.isAgg,ha,ht.sizeOf],?_⟩
    simp only [if_true]
    congr 1
    apply Array.toList_inj.1
    simp
  | false =>
    have hc:ti.cells=1:=by rcases h1 with h1 | h1 <;> simp_all
    have hlt:off<cs.size:=om
    refine ⟨cs[off],by simp [ht.isAgg,ha,hlt],?_⟩
    simp only [Bool.false_eq_true,if_false,hc]
    rw [List.drop_eq_getElem_cons (by simpa using hlt),List.take_succ_cons,List.take_zero]
    simp
mutual
theorem eqv_sound (hT:TabOk P T):∀ (d n t:Nat) (ti:TI) (xs ys:List SV) (b:Bool),eqv T d t xs ys=some b->fnd T t=some ti->d<=n->∀ {Γ:Gh} {ρ:Env} {vs us:List Value} {v u:Value},DenL Γ ρ xs vs->DenL Γ ρ ys us->ValOf ti vs v->ValOf ti us u->∀ w:World,(Op.equalIn n t v u).run P w = .ok b w
  | 0,_,_,_,_,_,_,h,_,_,_,_,_,_,_,_,_,_,_,_,_=>by simp [eqv] at h
  | d + 1,0,_,_,_,_,_,_,_,hn,_,_,_,_,_,_,_,_,_,_,_=>by omega
  | d + 1,n + 1,t,ti,xs,ys,b,h,hti,hn,Γ,ρ,vs,us,v,u,hx,hy,hv,hu,w=>by
    simp only [eqv,hti] at h
    have ht:=hT t ti hti
    have hdesc:=ht.desc
    have hund:=ht.und
    split at h
    · rename_i k hd
      rw [hd] at hdesc; simp only [DescOk] at hdesc
      rw [hdesc] at hund
      have ha:ti.agg=false:=by simpa [isAggD] using hund.symm
      split at h
      · rename_i k1 a k2 b'
        simp only [DenL,Den] at hx hy
        obtain ⟨x1,r1,rfl,rfl,rfl⟩:=hx
        obtain ⟨x2,r2,rfl,rfl,rfl⟩:=hy
        simp only [ValOf,ha,Bool.false_eq_true,if_false,List.cons.injEq,and_true] at hv hu
        subst hv hu
        split at h
        · cases h; exact run_equalIn_int w n t _ _ _ _ hdesc
        · cases h; exact run_equalIn_int w n t _ _ _ _ hdesc
        · cases h
      · cases h
    · rename_i hd
      rw [hd] at hdesc; simp only [DescOk] at hdesc
      rw [hdesc] at hund
      have ha:ti.agg=false:=by simpa [isAggD] using hund.symm
      split at h
      · simp only [DenL,Den] at hx hy
        obtain ⟨x1,r1,rfl,rfl,rfl⟩:=hx
        obtain ⟨x2,r2,rfl,rfl,rfl⟩:=hy
        simp only [ValOf,ha,Bool.false_eq_true,if_false,List.cons.injEq,and_true] at hv hu
        subst hv hu
        cases h; exact run_equalIn_bool' w n t _ _ hdesc
      · cases h
    · rename_i fs hd
      rw [hd] at hdesc; simp only [DescOk] at hdesc
      split at h
      · rename_i heq
        obtain ⟨e1,e2,e3⟩:=ht.eq heq
        cases hq:P.underlying t with
        | none=>simp [hq] at hdesc
        | some desc =>
          rw [hq] at hdesc hund e3
          cases desc with
          | struct fa =>
            simp only [Option.bind_some,structFs,Option.some.injEq] at hdesc
            have ha:ti.agg=true:=by simpa [isAggD] using hund.symm
            simp only [ValOf,ha,if_true] at hv hu
            subst hv hu
            have hf:P.fieldsOf t=fa:=by simp [Program.fieldsOf,hq]
            rw [run_equalIn_struct w n t _ _ (by rw [hf]; exact hq) e1,hf]
            simp only [Option.map_some,Option.some.injEq,noBlank] at e3
            subst hdesc
            exact eqvF_sound hT d n fa.toList xs ys b h om hx hy (by simpa using e3) w
          | _=>simp [structFs] at hdesc
      · cases h
    · cases h
theorem eqvF_sound (hT:TabOk P T):∀ (d n:Nat) (fa:List Field) (xs ys:List SV) (b:Bool),eqvF T d (fa.map fun f=>(f.offset,f.type)) xs ys=some b->d<=n->∀ {Γ:Gh} {ρ:Env} {vs us:List Value},DenL Γ ρ xs vs->DenL Γ ρ ys us->(fa.all fun f=>f.name != "_")=true ->
    ∀ w:World,(Op.eqFields n vs.toArray us.toArray fa).run P w = .ok b w
  | 0,_,_,_,_,_,h,_,_,_,_,_,_,_,_,_=>by simp [eqvF] at h
  | d + 1,n,[],_,_,b,h,_,_,_,_,_,_,_,_,w=>by
    simp [eqvF] at h; subst h
    simp [Op.eqFields]
  | d + 1,n,f :: fa,xs,ys,b,h,hn,Γ,ρ,vs,us,hx,hy,hnb,w=>by
    simp only [List.map_cons,eqvF] at h
    simp only [List.all_cons,Bool.and_eq_true] at hnb
    split at h
    · rename_i fi hfi
      split at h
      · rename_i h1 h2 h3
        split at h
        · rename_i p q hp hq
          cases h
          have ht:=hT _ fi hfi
          have h3':fi.agg=true\/fi.cells=1:=by
            split at h3
            · rename_i ha; exact .inl ha
            · exact .inr (Nat.eq_of_beq_eq_true h3)
          have hl1:=hx.length; have hl2:=hy.length
          obtain ⟨v,hv1,hv2⟩:=run_part ht vs.toArray f.offset (by have:=Nat.le_of_ble_eq_true h1; simp; omega) h3' w
          obtain ⟨u,hu1,hu2⟩:=run_part ht us.toArray f.offset (by have:=Nat.le_of_ble_eq_true h2; simp; omega) h3' w
          have he:=eqv_sound hT d n f.type fi _ _ p hp hfi om ((hx.drop f.offset).take fi.cells) ((hy.drop f.offset).take fi.cells) (by simpa using hv2) (by simpa using hu2) w
          have hname:f.name≠ "_":=by simpa using hnb.1
          have ih:=eqvF_sound hT d n fa xs ys q hq om hx hy hnb.2 w
          simp only [Op.eqFields,hname,ne_eq,not_false_eq_true,if_true,Sem.run_bind,hv1,hu1,Result.andThen_ok,he]
          cases p
          · simp
          · simpa using ih
        · cases h
      · cases h
    · cases h
end
def eqAgg (T:Tab)(t:Nat)(xs ys:List SV):Option Bool :=
  match fnd T t with
  | some ti=>match ti.eq,ti.agg with
    | true,true=>eqv T 50 t xs ys
    | _,_=>none
  | none=>none
theorem eqAgg_sound (hT:TabOk P T){t:Nat}{xs ys:List SV}{b:Bool}(h:eqAgg T t xs ys=some b){Γ:Gh}{ρ:Env}{vs us:Array Value}(hx:DenL Γ ρ xs vs.toList)(hy:DenL Γ ρ ys us.toList)(x y:Operand)(w:World)(op:BinOp) :
    (eqGuard op t x y (.agg vs) (.agg us)).run P w = .ok () w/\(Op.equalIn 10000 t (.agg vs) (.agg us)).run P w = .ok b w:=by
  unfold eqAgg at h
  split at h
  · rename_i ti hti
    split at h
    · rename_i he ha
      refine ⟨run_eqGuard_agg w op t x y vs us ((hT t ti hti).eq he).2.1,?_⟩
      exact eqv_sound hT 50 10000 t ti xs ys b h hti om hx hy (by simp [ValOf,ha]) (by simp [ValOf,ha]) w
    · cases h
  · cases h
def xbin (T:Tab)(op:BinOp)(t:Nat)(a b:SV)(q:SV):Option (SV×Prop):=match op,a,b,q with
  | .add,.int .i64 x,.int .i64 y,.int _ r=>some (.int .i64 r,IntKind.i64.wrap (x + y)=r)
  | .add,.int .u64 x,.int .u64 y,.int _ r=>some (.int .u64 r,IntKind.u64.wrap (x + y)=r)
  | .sub,.int .i64 x,.int .i64 y,.int _ r=>some (.int .i64 r,IntKind.i64.wrap (x - y)=r)
  | .sub,.int .u64 x,.int .u64 y,.int _ r=>some (.int .u64 r,IntKind.u64.wrap (x - y)=r)
  | .mul,.int .i64 x,.int .i64 y,.int _ r=>some (.int .i64 r,IntKind.i64.wrap (x * y)=r)
  | .mul,.int .u64 x,.int .u64 y,.int _ r=>some (.int .u64 r,IntKind.u64.wrap (x * y)=r)
  | .quo,.int .u64 x,.int .u64 y,.int _ r=>some (.int .u64 r,y≠0/\IntKind.u64.wrap (x.tdiv y)=r)
  | .quo,.int .i64 x,.int .i64 y,.int _ r=>some (.int .i64 r,y≠0/\IntKind.i64.wrap (x.tdiv y)=r)
  | .rem,.int .u64 x,.int .u64 y,.int _ r=>some (.int .u64 r,y≠0/\x.tmod y=r)
  | .rem,.int .i64 x,.int .i64 y,.int _ r=>some (.int .i64 r,y≠0/\x.tmod y=r)
  | .shl,.int k x,.int _ y,.int _ r=>some (.int k r,0<=y/\k.wrap (x * 2 ^ min y.toNat k.bits)=r)
  | .shr,.int k x,.int _ y,.int _ r=>some (.int k r,0<=y/\x.fdiv (2 ^ min y.toNat k.bits)=r)
  | .and,.int .u64 x,.int .u64 y,.int _ r=>some (.int .u64 r,IntKind.u64.wrap (BitVec.ofInt 64 x &&& BitVec.ofInt 64 y).toNat=r)
  | .or,.int .u64 x,.int .u64 y,.int _ r=>some (.int .u64 r,IntKind.u64.wrap (BitVec.ofInt 64 x ||| BitVec.ofInt 64 y).toNat=r)
  | .eql,.int .i64 x,.int .i64 y,.bool r=>some (.bool r,(x == y)=r)
  | .eql,.int .u64 x,.int .u64 y,.bool r=>some (.bool r,(x == y)=r)
  | .neq,.int .i64 x,.int .i64 y,.bool r=>some (.bool r,(x != y)=r)
  | .neq,.int .u64 x,.int .u64 y,.bool r=>some (.bool r,(x != y)=r)
  | .lss,.int .i64 x,.int .i64 y,.bool r=>some (.bool r,decide (x<y)=r)
  | .lss,.int .u64 x,.int .u64 y,.bool r=>some (.bool r,decide (x<y)=r)
  | .leq,.int .i64 x,.int .i64 y,.bool r=>some (.bool r,decide (x<=y)=r)
  | .leq,.int .u64 x,.int .u64 y,.bool r=>some (.bool r,decide (x<=y)=r)
  | .gtr,.int .i64 x,.int .i64 y,.bool r=>some (.bool r,decide (y<x)=r)
  | .gtr,.int .u64 x,.int .u64 y,.bool r=>some (.bool r,decide (y<x)=r)
  | .geq,.int .i64 x,.int .i64 y,.bool r=>some (.bool r,decide (y<=x)=r)
  | .geq,.int .u64 x,.int .u64 y,.bool r=>some (.bool r,decide (y<=x)=r)
  | .eql,.bool x,.bool y,.bool r=>match fnd T t with
    | some ti=>match ti.d with
      | .bool=>some (.bool r,(x == y)=r)
      | _=>none
    | none=>none
  | .neq,.bool x,.bool y,.bool r=>match fnd T t with
    | some ti=>match ti.d with
      | .bool=>some (.bool r,(!(x == y))=r)
      | _=>none
    | none=>none
  | .eql,.agg xs,.agg ys,.bool r=>match eqAgg T t xs ys with
    | some e=>some (.bool r,e=r)
    | none=>none
  | .neq,.agg xs,.agg ys,.bool r=>match eqAgg T t xs ys with
    | some e=>some (.bool r,(!e)=r)
    | none=>none
  | _,_,_,_=>none
theorem eqGuard_ok (op:BinOp)(t:TypeId)(x y:Operand)(a b:Value)(w:World)(ha:∀ cs,a≠.agg cs)(hn:a≠.nilIface):(eqGuard op t x y a b).run P w = .ok () w:=by
  have key:(match a,b with
    | Value.nilIface,Value.nilIface =>
      if (x matches .const _) || (y matches .const _) then (Pure.pure ():Sem Unit) else do
        if <- Op.eqGuardIn Op.maxDepth t a b then unsupported (.noEntry "binop/eql: two nil values of an interface type with methods, neither of them the literal nil")
    | .agg _,.agg _=>do
      if !(<- program).eqGuardType (<- program).depth t then return
      if <- Op.eqGuardIn Op.maxDepth t a b then unsupported (.noEntry "binop/eql: two nil values of an interface type with methods, in a part of a struct or an array")
    | _,_=>Pure.pure ()).run P w = .ok () w:=by
    split
    · exact absurd rfl hn
    · exact absurd rfl (ha _)
    · rfl
  cases op <;> first | rfl | (simp only [eqGuard]; exact key)
theorem xbin_sound (hT:TabOk P T){op:BinOp}{t:Nat}{x y:Operand}{a b q sv:SV}{k:Prop}(h:xbin T op t a b q=some (sv,k))(hk:k){Γ:Gh}{ρ:Env}{va vb:Value}(ha:Den Γ ρ a va)(hb:Den Γ ρ b vb)(w:World) :
    ∃ v,(do eqGuard op t x y va vb; binOp op t va vb:Sem Value).run P w = .ok v w/\Den Γ ρ sv v/\∀ n,sv.bd n=true:=by
  unfold xbin at h
  split at h
  all_goals first
    | (simp only [Option.some.injEq,Prod.mk.injEq] at h
       obtain ⟨rfl,rfl⟩:=h
       simp only [Den] at ha hb
       subst ha hb
       first
        | (subst hk
           refine ⟨.int _ _,?_,by simp only [Den]; exact rfl,fun _=>rfl⟩
           rw [Sem.run_bind,eqGuard_ok _ _ _ _ _ _ _ (by simp) (by simp)]
           first
            | (simp [binOp,Op.intArith]; done)
            | rfl
           done)
        | (obtain ⟨hk1,rfl⟩:=hk
           refine ⟨.int _ _,?_,by simp only [Den]; exact rfl,fun _=>rfl⟩
           rw [Sem.run_bind,eqGuard_ok _ _ _ _ _ _ _ (by simp) (by simp)]
           simp [binOp,Op.intDiv,hk1]
           done)
        | (obtain ⟨hk1,rfl⟩:=hk
           refine ⟨.int _ _,?_,by simp only [Den]; exact rfl,fun _=>rfl⟩
           rw [Sem.run_bind,eqGuard_ok _ _ _ _ _ _ _ (by simp) (by simp)]
           have hk1':=Int.not_lt.2 hk1
           simp [binOp,Op.shift,hk1']
           done)
        | (subst hk
           refine ⟨.bool _,?_,by simp only [Den]; exact rfl,fun _=>rfl⟩
           rw [Sem.run_bind,eqGuard_ok _ _ _ _ _ _ _ (by simp) (by simp)]
           simp [binOp,Op.intCmp]
           done))
    | skip
  · split at h
    · rename_i ti hti
      have hdesc:=(hT t ti hti).desc
      split at h
      · rename_i hd
        rw [hd] at hdesc; simp only [DescOk] at hdesc
        simp only [Option.some.injEq,Prod.mk.injEq] at h
        obtain ⟨rfl,rfl⟩:=h
        simp only [Den] at ha hb
        subst ha hb
        refine ⟨.bool _,?_,by simp only [Den]; exact rfl,fun _=>rfl⟩
        rw [Sem.run_bind,eqGuard_ok _ _ _ _ _ _ _ (by simp) (by simp),Result.andThen_ok,run_eql_bool w t _ _ hdesc,hk]
      · cases h
    · cases h
  · split at h
    · rename_i ti hti
      have hdesc:=(hT t ti hti).desc
      split at h
      · rename_i hd
        rw [hd] at hdesc; simp only [DescOk] at hdesc
        simp only [Option.some.injEq,Prod.mk.injEq] at h
        obtain ⟨rfl,rfl⟩:=h
        simp only [Den] at ha hb
        subst ha hb
        refine ⟨.bool _,?_,by simp only [Den]; exact rfl,fun _=>rfl⟩
        rw [Sem.run_bind,eqGuard_ok _ _ _ _ _ _ _ (by simp) (by simp),Result.andThen_ok,run_neq_bool w t _ _ hdesc,hk]
      · cases h
    · cases h
  · split at h
    · rename_i e he
      simp only [Option.some.injEq,Prod.mk.injEq] at h
      obtain ⟨rfl,rfl⟩:=h
      simp only [Den] at ha hb
      obtain ⟨vs,rfl,ha⟩:=ha
      obtain ⟨us,rfl,hb⟩:=hb
      refine ⟨.bool _,?_,by simp only [Den]; exact rfl,fun _=>rfl⟩
      obtain ⟨h1,h2⟩:=eqAgg_sound hT he ha hb x y w .eql
      rw [Sem.run_bind,h1,Result.andThen_ok,run_eql_struct,h2,Result.andThen_ok,hk]
    · cases h
  · split at h
    · rename_i e he
      simp only [Option.some.injEq,Prod.mk.injEq] at h
      obtain ⟨rfl,rfl⟩:=h
      simp only [Den] at ha hb
      obtain ⟨vs,rfl,ha⟩:=ha
      obtain ⟨us,rfl,hb⟩:=hb
      refine ⟨.bool _,?_,by simp only [Den]; exact rfl,fun _=>rfl⟩
      obtain ⟨h1,h2⟩:=eqAgg_sound hT he ha hb x y w .neq
      rw [Sem.run_bind,h1,Result.andThen_ok,run_neq_struct,h2,Result.andThen_ok,hk]
    · cases h
  · cases h
end
section
variable {P:Program} {T:Tab} {N:Nat} {fr:Fr} {mem:Mem} {nx:Nat} {o:Oper}
def xbinOp (T:Tab)(fr:Fr)(mem:Mem)(nx:Nat)(op:BinOp)(t:Nat)(x y:Operand)(q:SV):R :=
 match xbin T op t (evo fr x) (evo fr y) q with
 | some (s,k)=>some (s,mem,nx,k)
 | none=>none
theorem ok_binOp (hT:TabOk P T){op:BinOp}{t yt:Nat}{x y:Operand}(ho:o.op = .binOp op t x y yt){q sv:SV}{mem':Mem}{nx':Nat}{k:Prop}(h:xbinOp T fr mem nx op t x y q=some (sv,mem',nx',k))(hk:k):OpOk P N fr mem nx o sv mem' nx':=by
 unfold xbinOp at h
 split at h
 ·rename_i s k' hs
  simp only [Option.some.injEq,Prod.mk.injEq] at h
  obtain ⟨rfl,rfl,rfl,rfl⟩:=h
  refine OpOk.pure fun Γ ρ w a hi hf=>?_
  obtain ⟨v,h1,h2,h3⟩:=xbin_sound hT (x:=x) (y:=y) hs hk (evo_den hf x).1 (evo_den hf y).1 w
  exact ⟨v,by simp only [execOp,ho]; rw [Sem.run_bind,h1]; rfl,h2,h3 nx⟩
 ·cases h
def xnot (fr:Fr)(mem:Mem)(nx:Nat)(x:Operand):R :=
 match evo fr x with
 | .bool b=>some (.bool (!b),mem,nx,True)
 | _=>none
theorem ok_not {t:Nat}{x:Operand}(ho:o.op = .unOp .not t x){sv:SV}{mem':Mem}{nx':Nat}{k:Prop}(h:xnot fr mem nx x=some (sv,mem',nx',k)):OpOk P N fr mem nx o sv mem' nx':=by
 unfold xnot at h
 split at h
 ·rename_i b hx
  simp only [Option.some.injEq,Prod.mk.injEq] at h
  obtain ⟨rfl,rfl,rfl,rfl⟩:=h
  refine OpOk.pure fun Γ ρ w a hi hf=>?_
  have h1:=(evo_den hf x).1
  rw [hx] at h1; simp only [Den] at h1
  exact ⟨.bool (!b),by simp [execOp,ho,h1,Op.unary],by simp only [Den],rfl⟩
 ·cases h
def xconv (T:Tab)(fr:Fr)(mem:Mem)(nx:Nat)(src dst:Nat)(x:Operand)(q:SV):R :=
 match fnd T src,fnd T dst,evo fr x,q with
 | some _,some ti,.int _ n,.int _ r=>match ti.d with
  | .int k=>some (.int k r,mem,nx,k.wrap n=r)
  | _=>none
 | _,_,_,_=>none
theorem ok_conv (hT:TabOk P T){src dst:Nat}{x:Operand}(ho:o.op = .convert src dst x){q sv:SV}{mem':Mem}{nx':Nat}{k:Prop}(h:xconv T fr mem nx src dst x q=some (sv,mem',nx',k))(hk:k):OpOk P N fr mem nx o sv mem' nx':=by
 unfold xconv at h
 split at h
 ·rename_i si ti k0 n k1 r hs hd hx
  split at h
  ·rename_i kk hdd
   simp only [Option.some.injEq,Prod.mk.injEq] at h
   obtain ⟨rfl,rfl,rfl,rfl⟩:=h
   have hdesc:=(hT dst ti hd).desc
   rw [hdd] at hdesc; simp only [DescOk] at hdesc
   have hsund:=(hT src si hs).und
   refine OpOk.pure fun Γ ρ w a hi hf=>?_
   have h1:=(evo_den hf x).1
   rw [hx] at h1; simp only [Den] at h1
   refine ⟨.int kk r,?_,by simp only [Den],rfl⟩
   cases hq:P.underlying src with
   | none=>simp [hq] at hsund
   | some sd=>simp [execOp,ho,h1,convert,run_underlying hq,run_underlying hdesc,Conv.intToInt,hk]
  ·cases h
 ·cases h
def xextract (fr:Fr)(mem:Mem)(nx:Nat)(x:Operand)(i:Nat):R :=
 match evo fr x with
 | .tup l=>match l[i]? with
  | some s=>some (s,mem,nx,True)
  | none=>none
 | _=>none
theorem ok_extract {x:Operand}{i:Nat}(ho:o.op = .extract x i){sv:SV}{mem':Mem}{nx':Nat}{k:Prop}(h:xextract fr mem nx x i=some (sv,mem',nx',k)):OpOk P N fr mem nx o sv mem' nx':=by
 unfold xextract at h
 split at h
 ·rename_i l hx
  split at h
  ·rename_i s hs
   simp only [Option.some.injEq,Prod.mk.injEq] at h
   obtain ⟨rfl,rfl,rfl,rfl⟩:=h
   refine OpOk.pure fun Γ ρ w a hi hf=>?_
   obtain ⟨h1,h1'⟩:=evo_den hf x
   rw [hx] at h1 h1'; simp only [Den] at h1
   obtain ⟨vs,hv,h1⟩:=h1
   obtain ⟨v,h2,h3⟩:=h1.get i hs
   have h2':vs[i]? = some v:=by simpa using h2
   exact ⟨v,by simp [execOp,ho,hv,Instr.extract,h2'],h3,bdL_get i h1' hs⟩
  ·cases h
 ·cases h
def xfield (T:Tab)(fr:Fr)(mem:Mem)(nx:Nat)(s:Nat)(x:Operand)(f:Nat):R :=
 match fnd T s,evo fr x with
 | some ti,.agg l=>match ti.d with
  | .struct fs=>match fs[f]? with
   | some (off,ft)=>match fnd T ft with
    | some fi=>match fi.agg with
     | true=>match Nat.ble (off + fi.cells) l.length with
      | true=>some (.agg ((l.drop off).take fi.cells),mem,nx,True)
      | false=>none
     | false=>match l[off]? with
      | some s=>some (s,mem,nx,True)
      | none=>none
    | none=>none
   | none=>none
  | _=>none
 | _,_=>none
theorem ok_field (hT:TabOk P T){s f:Nat}{x:Operand}(ho:o.op = .field s x f){sv:SV}{mem':Mem}{nx':Nat}{k:Prop}(h:xfield T fr mem nx s x f=some (sv,mem',nx',k)):OpOk P N fr mem nx o sv mem' nx':=by
 unfold xfield at h
 split at h
 ·rename_i ti l hti hx
  split at h
  ·rename_i fs hd
   have hdesc:=(hT s ti hti).desc
   rw [hd] at hdesc; simp only [DescOk] at hdesc
   cases hu:P.underlying s with
   | none=>simp [hu] at hdesc
   | some d =>
    rw [hu] at hdesc
    cases d with
    | struct fa =>
     simp only [Option.bind_some,structFs,Option.some.injEq] at hdesc
     subst hdesc
     split at h
     ·rename_i off ft hf
      rw [List.getElem?_map] at hf
      cases hq:fa.toList[f]? with
      | none=>simp [hq] at hf
      | some fd =>
       simp [hq] at hf
       obtain ⟨rfl,rfl⟩:=hf
       have hq':fa[f]? = some fd:=by simpa using hq
       split at h
       ·rename_i fi hfi
        have ht:=hT _ fi hfi
        split at h
        ·rename_i ha
         split at h
         ·rename_i hle
          simp only [Option.some.injEq,Prod.mk.injEq] at h
          obtain ⟨rfl,rfl,rfl,rfl⟩:=h
          refine OpOk.pure fun Γ ρ w a hi hff=>?_
          obtain ⟨h1,h1'⟩:=evo_den hff x
          rw [hx] at h1 h1'; simp only [Den] at h1
          obtain ⟨vs,hv,h1⟩:=h1
          refine ⟨.agg (vs.extract fd.offset (fd.offset + fi.cells)),?_,?_,bdL_take _ (bdL_drop _ h1')⟩
          ·simp [execOp,ho,hv,Instr.field,run_underlying hu,hq',asAgg,part,ht.isAgg,ha,ht.sizeOf]
          ·simp only [Den]
           refine ⟨_,rfl,?_⟩
           have:=(h1.drop fd.offset).take fi.cells
           simpa using this
         ·cases h
        ·rename_i ha
         split at h
         ·rename_i s1 hs1
          simp only [Option.some.injEq,Prod.mk.injEq] at h
          obtain ⟨rfl,rfl,rfl,rfl⟩:=h
          refine OpOk.pure fun Γ ρ w a hi hff=>?_
          obtain ⟨h1,h1'⟩:=evo_den hff x
          rw [hx] at h1 h1'; simp only [Den] at h1
          obtain ⟨vs,hv,h1⟩:=h1
          obtain ⟨v,h2,h3⟩:=h1.get _ hs1
          have h2':vs[fd.offset]? = some v:=by simpa using h2
          exact ⟨v,by simp [execOp,ho,hv,Instr.field,run_underlying hu,hq',asAgg,part,ht.isAgg,ha,h2'],h3,bdL_get _ h1' hs1⟩
         ·cases h
       ·cases h
     ·cases h
    | _=>simp [structFs] at hdesc
  ·cases h
 ·cases h
theorem mapDen {Γ:Gh}{ρ:Env}{a:Act}(hf:FrDen Γ ρ nx N fr a):∀ (l:List Operand),DenL Γ ρ (l.map (evo fr)) (l.map a.eval)/\bdL nx (l.map (evo fr))=true
 | []=>by simp [DenL,bdL]
 | x :: l=>by
  obtain ⟨h1,h2⟩:=mapDen hf l
  simp only [List.map_cons,DenL,bdL,Bool.and_eq_true]
  exact ⟨⟨_,_,rfl,(evo_den hf x).1,h1⟩,(evo_den hf x).2,h2⟩
def xmakeFunc (fr:Fr)(mem:Mem)(nx:Nat)(f:Nat)(first cap:Array Operand):R :=
 some (.fn f (first.toList.map (evo fr)) (cap.toList.map (evo fr)),mem,nx,True)
theorem ok_makeFunc {f:Nat}{first cap:Array Operand}(ho:o.op = .makeFunc (.func f) first cap){sv:SV}{mem':Mem}{nx':Nat}{k:Prop}(h:xmakeFunc fr mem nx f first cap=some (sv,mem',nx',k)):OpOk P N fr mem nx o sv mem' nx':=by
 unfold xmakeFunc at h
 simp only [Option.some.injEq,Prod.mk.injEq] at h
 obtain ⟨rfl,rfl,rfl,rfl⟩:=h
 refine OpOk.pure fun Γ ρ w a hi hf=>?_
 obtain ⟨h1,h2⟩:=mapDen hf first.toList
 obtain ⟨h3,h4⟩:=mapDen hf cap.toList
 refine ⟨.func (.func f) (first.map a.eval) (cap.map a.eval),by simp [execOp,ho,Instr.makeFunc],?_,by simp [SV.bd,h2,h4]⟩
 simp only [Den]
 exact ⟨_,_,rfl,by simpa using h1,by simpa using h3⟩
def xlen (T:Tab)(fr:Fr)(mem:Mem)(nx:Nat)(t:Nat)(x:Operand)(q:SV):R :=
 match fnd T t,q with
 | some ti,.int _ r=>match ti.d with
  | .slice _=>match evo fr x with
   | .nils=>some (.int .i64 r,mem,nx,(0:Int)=r)
   | .sl _ _ xs=>some (.int .i64 r,mem,nx,(xs.length:Int)=r)
   | .own n=>match fnd mem n with
    | some (.row _ _ xs)=>some (.int .i64 r,mem,nx,(xs.length:Int)=r)
    | _=>none
   | _=>none
  | .arr n _=>some (.int .i64 r,mem,nx,(n:Int)=r)
  | _=>none
 | _,_=>none
theorem run_len {a:Act}{x:Operand}{ats:Array TypeId}(w:World)(r:Int)(h:(Builtin.len_ ats o.type #[a.eval x]).run P w = .ok (.int .i64 r) w)(ho:o.op = .call { callee:=.builtin .len,args:=#[x],argTypes:=ats }) :
  (execOp a.eval o).run P w = .ok (.value (.int .i64 r)) w:=by
 simp [execOp,ho,resolve,invoke,builtin,h]
theorem ok_len (hT:TabOk P T){t:Nat}{x:Operand}(ho:o.op = .call { callee:=.builtin .len,args:=#[x],argTypes:=#[t] }){q sv:SV}{mem':Mem}{nx':Nat}{k:Prop}(h:xlen T fr mem nx t x q=some (sv,mem',nx',k))(hk:k):OpOk P N fr mem nx o sv mem' nx':=by
 unfold xlen at h
 split at h
 ·rename_i ti k0 r hti
  have hdesc:=(hT t ti hti).desc
  split at h
  ·rename_i e hd
   rw [hd] at hdesc; simp only [DescOk] at hdesc
   split at h
   ·rename_i hx
    simp only [Option.some.injEq,Prod.mk.injEq] at h
    obtain ⟨rfl,rfl,rfl,rfl⟩:=h
    refine OpOk.pure fun Γ ρ w a hi hf=>⟨.int .i64 r,run_len w r ?_ ho,by simp only [Den],rfl⟩
    have h1:=(evo_den hf x).1
    rw [hx] at h1; simp only [Den] at h1
    simp [Builtin.len_,run_underlying hdesc,h1,goInt,<- hk]
   ·rename_i b z xs hx
    simp only [Option.some.injEq,Prod.mk.injEq] at h
    obtain ⟨rfl,rfl,rfl,rfl⟩:=h
    refine OpOk.pure fun Γ ρ w a hi hf=>⟨.int .i64 r,run_len w r ?_ ho,by simp only [Den],rfl⟩
    have h1:=(evo_den hf x).1
    rw [hx] at h1; simp only [Den] at h1
    rcases h1 with ⟨_,h1,h2⟩ | ⟨_,_,_,_,h1,_⟩
    ·subst h2; simp [Builtin.len_,run_underlying hdesc,h1,goInt,<- hk]
    ·simp [Builtin.len_,run_underlying hdesc,h1,goInt,<- hk]
   ·rename_i n hx
    split at h
    ·rename_i z E xs hm
     simp only [Option.some.injEq,Prod.mk.injEq] at h
     obtain ⟨rfl,rfl,rfl,rfl⟩:=h
     refine OpOk.pure fun Γ ρ w a hi hf=>⟨.int .i64 r,run_len w r ?_ ho,by simp only [Den],rfl⟩
     have h1:=(evo_den hf x).1
     rw [hx] at h1; simp only [Den] at h1
     obtain ⟨⟨v,hv1,g⟩,_,_⟩:=hi.priv n _ hm
     rw [h1.1] at hv1; cases hv1
     rcases g with ⟨g,g',_⟩ | ⟨b,arr,cap,g1,g2,_⟩
     ·subst g'; simp [Builtin.len_,run_underlying hdesc,g,goInt,<- hk]
     ·simp [Builtin.len_,run_underlying hdesc,g2,goInt,<- hk]
    ·cases h
   ·cases h
  ·rename_i n e hd
   rw [hd] at hdesc; simp only [DescOk] at hdesc
   simp only [Option.some.injEq,Prod.mk.injEq] at h
   obtain ⟨rfl,rfl,rfl,rfl⟩:=h
   refine OpOk.pure fun Γ ρ w a hi hf=>⟨.int .i64 r,run_len w r ?_ ho,by simp only [Den],rfl⟩
   simp [Builtin.len_,run_underlying hdesc,goInt,<- hk]
  ·cases h
 ·cases h
def xmm (mx:Bool)(fr:Fr)(mem:Mem)(nx:Nat)(x y:Operand)(q:SV):R :=
 match evo fr x,evo fr y,q with
 | .int k a,.int _ b,.int _ r=>match mx with
  | true=>some (.int k r,mem,nx,(if b>a then b else a)=r)
  | false=>some (.int k r,mem,nx,(if b<a then b else a)=r)
 | _,_,_=>none
theorem ok_max {x y:Operand}{ats:Array TypeId}(ho:o.op = .call { callee:=.builtin .max,args:=#[x,y],argTypes:=ats }){q sv:SV}{mem':Mem}{nx':Nat}{k:Prop}(h:xmm true fr mem nx x y q=some (sv,mem',nx',k))(hk:k):OpOk P N fr mem nx o sv mem' nx':=by
 unfold xmm at h
 split at h
 ·rename_i k1 a1 k2 b1 k3 r hx hy
  simp only [Option.some.injEq,Prod.mk.injEq] at h
  obtain ⟨rfl,rfl,rfl,rfl⟩:=h
  refine OpOk.pure fun Γ ρ w a hi hf=>⟨.int k1 r,?_,by simp only [Den],rfl⟩
  have h1:=(evo_den hf x).1; have h2:=(evo_den hf y).1
  rw [hx] at h1; rw [hy] at h2; simp only [Den] at h1 h2
  simp [execOp,ho,resolve,invoke,builtin,h1,h2,run_max_int2,hk]
 ·cases h
theorem ok_min {x y:Operand}{ats:Array TypeId}(ho:o.op = .call { callee:=.builtin .min,args:=#[x,y],argTypes:=ats }){q sv:SV}{mem':Mem}{nx':Nat}{k:Prop}(h:xmm false fr mem nx x y q=some (sv,mem',nx',k))(hk:k):OpOk P N fr mem nx o sv mem' nx':=by
 unfold xmm at h
 split at h
 ·rename_i k1 a1 k2 b1 k3 r hx hy
  simp only [Option.some.injEq,Prod.mk.injEq] at h
  obtain ⟨rfl,rfl,rfl,rfl⟩:=h
  refine OpOk.pure fun Γ ρ w a hi hf=>⟨.int k1 r,?_,by simp only [Den],rfl⟩
  have h1:=(evo_den hf x).1; have h2:=(evo_den hf y).1
  rw [hx] at h1; rw [hy] at h2; simp only [Den] at h1 h2
  simp [execOp,ho,resolve,invoke,builtin,h1,h2,run_min_int2,hk]
 ·cases h
def fillS (place:Nat->Option (Nat×Nat))(fr:Fr):List SV->List (Nat×Operand)->Option (List SV)
 | l,[]=>some l
 | l,(i,x) :: rest=>match place i,cellsOf (evo fr x) with
  | some (off,size),some n=>match Nat.beq n.length size,Nat.ble (off + n.length) l.length with
   | true,true=>fillS place fr (splice l off n) rest
   | _,_=>none
  | _,_=>none
theorem foldl_splice (off:Nat)(l:List Value)(cs:Array Value)(h:off + l.length<=cs.size) :
  ((l.toArray.zipIdx).foldl (fun cs (x:Value×Nat)=>cs.setIfInBounds (off + x.2) x.1) cs).toList=cs.toList.take off++l++cs.toList.drop (off + l.length):=by
 have e:(l.toArray.zipIdx).foldl (fun cs (x:Value×Nat)=>cs.setIfInBounds (off + x.2) x.1) cs=(l.zipIdx 0).foldl (fun cs (x:Value×Nat)=>cs.setIfInBounds (off + x.2) x.1) cs:=by
  rw [<- Array.foldl_toList,Array.toList_zipIdx]
 rw [e]
 obtain ⟨h1,h2⟩:=Great.foldl_set off l 0 cs
 apply List.ext_getElem?
 intro k
 have h3:=h2 k
 rw [<- Array.getElem?_toList] at h3
 rw [h3]
 simp only [Nat.add_zero]
 by_cases hk:off<=k/\k<off + l.length/\k<cs.size
 ·rw [if_pos hk,List.append_assoc,List.getElem?_append_right (by simp; omega),List.getElem?_append_left (by simp; omega)]
  congr 1
  simp; omega
 ·rw [if_neg hk]
  by_cases hk':k<off
  ·rw [List.append_assoc,List.getElem?_append_left (by simp; omega),List.getElem?_take_of_lt hk']
   simp
  ·rw [List.getElem?_append_right (by simp; omega),List.getElem?_drop]
   simp only [List.length_append,List.length_take,Array.length_toList]
   rw [<- Array.getElem?_toList]
   congr 1
   have:min off cs.size=off:=om
   by_cases hb:k<off + l.length
   ·omega
   ·omega
theorem fill_sound (placeV:Nat->Option (Nat×Nat)){Γ:Gh}{ρ:Env}{a:Act}(hf:FrDen Γ ρ nx N fr a):∀ (parts:List (Nat×Operand)) (l m:List SV) (cs:Array Value),fillS placeV fr l parts=some m->DenL Γ ρ l cs.toList->bdL nx l=true ->
  ∃ r,Instr.fill placeV cs (parts.map fun (i,x)=>(i,a.eval x))=some r/\DenL Γ ρ m r.toList/\bdL nx m=true
 | [],l,m,cs,h,hd,hb=>by
  simp only [fillS,Option.some.injEq] at h
  subst h
  exact ⟨cs,rfl,hd,hb⟩
 | (i,x) :: rest,l,m,cs,h,hd,hb=>by
  simp only [fillS] at h
  split at h
  ·rename_i off size n hp hc
   split at h
   ·rename_i h1 h2
    obtain ⟨g1,g2⟩:=evo_den hf x
    obtain ⟨g3,g4,g5⟩:=cellsOf_den hc g1 g2
    have hn:=g3.length
    have hl:=hd.length
    simp only [Array.length_toList] at hn hl
    have h1':n.length=size:=Nat.eq_of_beq_eq_true h1
    have h2':off + n.length<=l.length:=Nat.le_of_ble_eq_true h2
    obtain ⟨r,hr,hrest⟩:=fill_sound placeV hf rest (splice l off n) m ((a.eval x).cells.zipIdx.foldl (fun cs (c,j)=>cs.setIfInBounds (off + j) c) cs) h (by
     have:=foldl_splice off (a.eval x).cells.toList cs (by simp; omega)
     rw [Array.toArray_toList] at this
     rw [this]
     have:=spliceDen off hd g3
     simpa using this) (spliceBd off hb g5)
    refine ⟨r,?_,hrest⟩
    simp only [List.map_cons,Instr.fill,hp]
    rw [if_neg (by simp; omega)]
    exact hr
   ·cases h
  ·cases h
def structPlaces (T:Tab):List (Nat×Nat)->Option (List (Nat×Nat))
 | []=>some []
 | (off,ft) :: fs=>match fnd T ft,structPlaces T fs with
  | some fi,some r=>some ((off,fi.cells) :: r)
  | _,_=>none
def xbuild (T:Tab)(fr:Fr)(mem:Mem)(nx:Nat)(t:Nat)(parts:Array (Nat×Operand)):R :=
 match fnd T t with
 | some ti=>match ti.d with
  | .struct fs=>match structPlaces T fs with
   | some pl=>match fillS (fun i=>pl[i]?) fr ti.zero parts.toList with
    | some l=>some (.agg l,mem,nx,True)
    | none=>none
   | none=>none
  | .arr _ e=>match fnd T e with
   | some ei=>match fillS (fun i=>some (i * ei.cells,ei.cells)) fr ti.zero parts.toList with
    | some l=>some (.agg l,mem,nx,True)
    | none=>none
   | none=>none
  | _=>none
 | none=>none
theorem run_places (hT:TabOk P T){w:World} : ∀ (fa:List Field) (pl:List (Nat×Nat)),structPlaces T (fa.map fun f=>(f.offset,f.type))=some pl ->
  (fa.mapM fun f=>(do pure (f.offset,<- sizeOf f.type):Sem (Nat×Nat))).run P w = .ok pl w
 | [],pl,h=>by simp [structPlaces] at h; subst h; simp
 | f :: fa,pl,h=>by
  simp only [List.map_cons,structPlaces] at h
  split at h
  ·rename_i fi r hfi hr
   simp only [Option.some.injEq] at h
   subst h
   have ih:=run_places hT (w:=w) fa r hr
   simp only [List.mapM_cons,Sem.run_bind,(hT _ fi hfi).sizeOf,Result.andThen_ok,Sem.run_pure]
   rw [ih]
   rfl
  ·cases h
theorem ok_build (hT:TabOk P T){t:Nat}{parts:Array (Nat×Operand)}(ho:o.op = .build t parts){sv:SV}{mem':Mem}{nx':Nat}{k:Prop}(h:xbuild T fr mem nx t parts=some (sv,mem',nx',k)):OpOk P N fr mem nx o sv mem' nx':=by
 unfold xbuild at h
 split at h
 ·rename_i ti hti
  have ht:=hT t ti hti
  have hdesc:=ht.desc
  obtain ⟨zv,hz1,hz2⟩:=ht.zeroValue
  split at h
  ·rename_i fs hd
   rw [hd] at hdesc; simp only [DescOk] at hdesc
   cases hu:P.underlying t with
   | none=>simp [hu] at hdesc
   | some d =>
    rw [hu] at hdesc
    cases d with
    | struct fa =>
     simp only [Option.bind_some,structFs,Option.some.injEq] at hdesc
     subst hdesc
     split at h
     ·rename_i pl hpl
      split at h
      ·rename_i l hl
       simp only [Option.some.injEq,Prod.mk.injEq] at h
       obtain ⟨rfl,rfl,rfl,rfl⟩:=h
       refine OpOk.pure fun Γ ρ w a hi hf=>?_
       obtain ⟨h3,_,h5,_⟩:=consts_den (Γ:=Γ) (ρ:=ρ) (n:=nx) hz2
       obtain ⟨r,hr1,hr2,hr3⟩:=fill_sound (fun i=>pl[i]?) hf parts.toList _ l zv.cells hl h3 h5
       refine ⟨.agg r,?_,by simp only [Den]; exact ⟨r,rfl,hr2⟩,hr3⟩
       have hpl':(fa.mapM fun f=>(do pure (f.offset,<- sizeOf f.type):Sem (Nat×Nat))).run P w = .ok pl.toArray w:=by
        rw [Array.mapM_eq_mapM_toList,Sem.run_map,run_places hT fa.toList pl hpl]
        rfl
       have hpl'':(Array.mapM (fun f:Field=>Prod.mk f.offset <$> sizeOf f.type) fa).run P w = .ok pl.toArray w:=by
        simpa [bind_pure_comp] using hpl'
       have hr1':Instr.fill (fun i=>pl[i]?) zv.cells (parts.toList.map fun x=>(x.1,a.eval x.2))=some r:=hr1
       simp [execOp,ho,Instr.build,hz1,run_underlying hu,hpl'',hr1']
      ·cases h
     ·cases h
    | _=>simp [structFs] at hdesc
  ·rename_i n e hd
   rw [hd] at hdesc; simp only [DescOk] at hdesc
   split at h
   ·rename_i ei hei
    split at h
    ·rename_i l hl
     simp only [Option.some.injEq,Prod.mk.injEq] at h
     obtain ⟨rfl,rfl,rfl,rfl⟩:=h
     refine OpOk.pure fun Γ ρ w a hi hf=>?_
     obtain ⟨h3,_,h5,_⟩:=consts_den (Γ:=Γ) (ρ:=ρ) (n:=nx) hz2
     obtain ⟨r,hr1,hr2,hr3⟩:=fill_sound (fun i=>some (i * ei.cells,ei.cells)) hf parts.toList _ l zv.cells hl h3 h5
     refine ⟨.agg r,?_,by simp only [Den]; exact ⟨r,rfl,hr2⟩,hr3⟩
     simp [execOp,ho,Instr.build,hz1,run_underlying hdesc,(hT e ei hei).sizeOf,hr1]
    ·cases h
   ·cases h
  ·cases h
 ·cases h
end
end Go.Proofs.YtmmfpkkamgapkaaGreat.X
