/- append: onto a row of one's own,onto nil,onto a shared slice without spare room; from whatever slice. -/
import Derived.Test.YtmmfpkkamgapkaaGreatXg
import Derived.Deep.AppendSrc
namespace Go.Proofs.YtmmfpkkamgapkaaGreat.X
open Go Go.RowKit
theorem arr_range0:Array.range 0 = #[]:=rfl
theorem fill_list (s:Nat):∀ (vs:List Value) (i0:Nat) (cs:Array Value),(∀ v∈vs,v.cells.size=s)->(i0 + vs.length) * s<=cs.size ->
  ∃ r,Instr.fill (fun i=>some (i * s,s)) cs ((vs.zipIdx i0).map fun x=>(x.2,x.1))=some r/\r.toList=cs.toList.take (i0 * s)++vs.flatMap (fun v=>v.cells.toList)++cs.toList.drop ((i0 + vs.length) * s)
 | [],i0,cs,_,_=>⟨cs,rfl,by simp⟩
 | v :: vs,i0,cs,hv,hle=>by
  have hvs:v.cells.size=s:=hv v List.mem_cons_self
  have e1:(i0 + (v :: vs).length) * s=i0 * s + s + vs.length * s:=by
   simp only [List.length_cons,Nat.add_mul,Nat.one_mul]; omega
  have e2:(i0 + 1 + vs.length) * s=i0 * s + s + vs.length * s:=by
   simp only [Nat.add_mul,Nat.one_mul]
  have e3:(i0 + 1) * s=i0 * s + s:=by simp only [Nat.add_mul,Nat.one_mul]
  rw [e1] at hle
  have hf:=foldl_splice (i0 * s) v.cells.toList cs (by simp; omega)
  rw [Array.toArray_toList] at hf
  generalize hcs:v.cells.zipIdx.foldl (fun cs (x:Value×Nat)=>cs.setIfInBounds (i0 * s + x.2) x.1) cs=cs' at hf
  have hsz:cs'.size=cs.size:=by
   have:=congrArg List.length hf
   simp at this; omega
  obtain ⟨r,hr,hrl⟩:=fill_list s vs (i0 + 1) cs' (fun u hu=>hv u (List.mem_cons_of_mem _ hu)) (by rw [hsz,e2]; exact hle)
  refine ⟨r,?_,?_⟩
  ·simp only [List.zipIdx_cons,List.map_cons]
   unfold Instr.fill
   simp only [hvs]
   rw [if_neg (by simp; omega)]
   rw [<- hr,<- hcs]
  ·rw [hrl,hf,e1,e2,e3]
   have hl:v.cells.toList.length=s:=by simpa using hvs
   have h0:(cs.toList.take (i0 * s)).length=i0 * s:=by simp; omega
   simp only [List.flatMap_cons]
   rw [hl]
   have t1:(cs.toList.take (i0 * s)++v.cells.toList++cs.toList.drop (i0 * s + s)).take (i0 * s + s)=cs.toList.take (i0 * s)++v.cells.toList:=by
    rw [List.take_append_of_le_length (by simp [hl]; omega),List.take_of_length_le (by simp [hl]; omega)]
   have t2:(cs.toList.take (i0 * s)++v.cells.toList++cs.toList.drop (i0 * s + s)).drop (i0 * s + s + vs.length * s)=cs.toList.drop (i0 * s + s + vs.length * s):=by
    rw [List.drop_append,List.drop_of_length_le (by simp [hl]; omega),List.nil_append,List.drop_drop]
    congr 1
    simp [hl]; omega
   rw [t1,t2]
   simp only [List.append_assoc]
def rowOk (z:Nat):List SV->Bool
 | []=>true
 | s :: l=>s.bd 0 && (match cellsOf s with | some n=>Nat.beq n.length z | none=>false) && rowOk z l
theorem rowOk_den {Γ:Gh}{ρ:Env}{z:Nat} : ∀ {xs:List SV} {vs:List Value},rowOk z xs=true->DenL Γ ρ xs vs->(∀ rest,DenE Γ z xs (vs.flatMap (fun v=>v.cells.toList)++rest))/\(∀ v∈vs,v.cells.size=z)/\(∀ c∈vs.flatMap (fun v=>v.cells.toList),c.oneCell'=true)
 | [],vs,_,hd=>by
  simp only [DenL] at hd; subst hd
  simp [DenE]
 | s :: xs,vs,h,hd=>by
  simp only [DenL] at hd
  obtain ⟨v,r,rfl,h1,h2⟩:=hd
  simp only [rowOk,Bool.and_eq_true] at h
  obtain ⟨⟨hb,hc⟩,hr⟩:=h
  split at hc
  ·rename_i n hn
   obtain ⟨g1,g2,_⟩:=cellsOf_den (n:=0) hn h1 hb
   have hl:=g1.length
   have hz:n.length=z:=Nat.eq_of_beq_eq_true hc
   simp only [Array.length_toList] at hl
   obtain ⟨k1,k2,k3⟩:=rowOk_den hr h2
   refine ⟨fun rest=>?_,?_,?_⟩
   ·simp only [DenE,List.flatMap_cons]
    have hvl:v.cells.toList.length=z:=by simp; omega
    refine ⟨⟨v,h1.ofBd0 hb,om,?_⟩,?_⟩
    ·rw [List.append_assoc,List.take_append_of_le_length om,List.take_of_length_le om]
    ·rw [List.append_assoc,List.drop_append_of_le_length om,List.drop_of_length_le om,List.nil_append]
     exact k1 rest
   ·intro u hu
    rcases List.mem_cons.1 hu with rfl | hu
    ·omega
    ·exact k2 u hu
   ·intro c hc'
    simp only [List.flatMap_cons,List.mem_append] at hc'
    rcases hc' with hc' | hc'
    ·exact g2 c hc'
    ·exact k3 c hc'
  ·cases hc
def dense:Nat->List (Nat×Operand)->Option (List Operand)
 | _,[]=>some []
 | i0,(i,x) :: l=>match Nat.beq i i0,dense (i0 + 1) l with
  | true,some r=>some (x :: r)
  | _,_=>none
theorem dense_spec:∀ (l:List (Nat×Operand)) (i0:Nat) (xs:List Operand) (a:Act),dense i0 l=some xs->l.map (fun x=>(x.1,a.eval x.2))=((xs.map a.eval).zipIdx i0).map (fun x=>(x.2,x.1))
 | [],i0,xs,a,h=>by simp [dense] at h; subst h; rfl
 | (i,x) :: l,i0,xs,a,h=>by
  simp only [dense] at h
  split at h
  ·rename_i r hi hr
   simp only [Option.some.injEq] at h
   subst h
   have hi:i=i0:=Nat.eq_of_beq_eq_true hi
   subst hi
   simp only [List.map_cons,List.zipIdx_cons]
   rw [dense_spec l (i + 1) r a hr]
  ·cases h
theorem ok_newRow {P:Program}{N:Nat}{fr:Fr}{mem:Mem}{nx:Nat}{o:Oper}{z E:Nat}{xs:List SV}(hrun:∀ Γ ρ w a,Inv Γ ρ nx mem w->FrDen Γ ρ nx N fr a->∃ (cs:Array Value),(execOp a.eval o).run P w = .ok (.value (.slice (some ⟨w.heap.size,0,none⟩) xs.length xs.length)) (w.alloc (.cells cs E)) /\
  cs.size=xs.length * z/\DenE Γ z xs cs.toList/\(∀ c∈cs.toList,c.oneCell'=true)):OpOk P N fr mem nx o (.own nx) ((nx,.row z E xs) :: mem) (nx + 1):=by
 intro Γ ρ w a hi hf
 obtain ⟨cs,h1,h2,h3,h4⟩:=hrun Γ ρ w a hi hf
 refine ⟨_,_,Γ,ρ.add nx (some w.heap.size) (some (.slice (some ⟨w.heap.size,0,none⟩) xs.length xs.length)),_,h1,.inl rfl,?_,by simp [SV.bd],?_,Env.add_same _ _ _ _,Nat.le_succ _,Stp.alloc hi _ _ _,Gh.le_refl _,fun _ hb=>.inl hb⟩
 ·simp only [Den]; exact ⟨Env.add_val _ _ _ _,rfl⟩
 ·refine hi.alloc _ _ (.row z E xs) ⟨_,Env.add_val _ _ _ _,.inr ⟨w.heap.size,cs,xs.length,Env.add_blk _ _ _ _,rfl,heap_alloc_new _ _,Nat.le_refl _,h2,h3,h4,?_⟩⟩ rfl
  cases hq:Γ w.heap.size with
  | none=>rfl
  | some cs'=>exact absurd (hi.lt hq) (Nat.lt_irrefl _)
section
variable {P:Program} {T:Tab} {N:Nat} {fr:Fr} {mem:Mem} {nx:Nat} {o:Oper}
def xbuildSlice (T:Tab)(fr:Fr)(mem:Mem)(nx:Nat)(t len:Nat)(parts:Array (Nat×Operand)):R :=
 match fnd T t with
 | some ti=>match ti.d with
  | .slice e=>match fnd T e,dense 0 parts.toList with
   | some ei,some xs=>match Nat.beq xs.length len,rowOk ei.cells (xs.map (evo fr)),Nat.ble (len * ei.cells) 1000,Nat.ble 1 ei.cells with
    | true,true,true,true=>some (.own nx,(nx,.row ei.cells e (xs.map (evo fr))) :: mem,nx + 1,True)
    | _,_,_,_=>none
   | _,_=>none
  | _=>none
 | none=>none
theorem ok_buildSlice (hT:TabOk P T){t len:Nat}{parts:Array (Nat×Operand)}(ho:o.op = .buildSlice t len parts){sv:SV}{mem':Mem}{nx':Nat}{k:Prop}(h:xbuildSlice T fr mem nx t len parts=some (sv,mem',nx',k)):OpOk P N fr mem nx o sv mem' nx':=by
 unfold xbuildSlice at h
 split at h
 ·rename_i ti hti
  have hdesc:=(hT t ti hti).desc
  split at h
  ·rename_i e hd
   rw [hd] at hdesc; simp only [DescOk] at hdesc
   split at h
   ·rename_i ei xs hei hds
    split at h
    ·rename_i hlen hrow hsm hz1
     simp only [Option.some.injEq,Prod.mk.injEq] at h
     obtain ⟨rfl,rfl,rfl,rfl⟩:=h
     have hlen:xs.length=len:=Nat.eq_of_beq_eq_true hlen
     have hsm:len * ei.cells<=1000:=Nat.le_of_ble_eq_true hsm
     have hz1:1<=ei.cells:=Nat.le_of_ble_eq_true hz1
     refine ok_newRow fun Γ ρ w a hi hf=>?_
     obtain ⟨hd1,_⟩:=mapDen hf xs
     obtain ⟨k1,k2,k3⟩:=rowOk_den hrow hd1
     obtain ⟨zv,hzv,_⟩:=(hT e ei hei).zeroValue
     have he:=dense_spec parts.toList 0 xs a hds
     let base:Array Value:=(Array.range (len * ei.cells)).map (fun i=>(if len * ei.cells=0 then (#[] : Array Value) else zv.cells)[i % (if len * ei.cells=0 then (#[] : Array Value) else zv.cells).size]!)
     have hbase:base.size=len * ei.cells:=by simp [base]
     obtain ⟨r,hr,hrl⟩:=fill_list ei.cells (xs.map a.eval) 0 base k2 (by rw [hbase]; simp [hlen])
     have hrl':r.toList=(xs.map a.eval).flatMap (fun v=>v.cells.toList):=by
      rw [hrl]
      simp [hlen,hbase,List.drop_of_length_le]
     have hfl:((xs.map a.eval).flatMap (fun v=>v.cells.toList)).length=len * ei.cells:=by
      have:r.size=base.size:=by
       have hh:=congrArg List.length hrl
       simp [hlen,hbase] at hh
       have hx:(List.map ((fun v=>v.cells.size) ∘ a.eval) xs)=List.replicate len ei.cells:=by
        rw [<- hlen]
        apply List.eq_replicate_iff.2
        refine ⟨by simp,fun b hb=>?_⟩
        obtain ⟨x,hx,rfl⟩:=List.mem_map.1 hb
        exact k2 _ (List.mem_map.2 ⟨x,hx,rfl⟩)
       simp [Function.comp_def] at hh hx
       rw [hbase]
       simp [hx] at hh
       omega
      rw [<- hrl']; simp [this,hbase]
     refine ⟨r,?_,?_,?_,?_⟩
     ·have hsm':¬ len * ei.cells>2 ^ 24:=om
      have hr':Instr.fill (fun i=>some (i * ei.cells,ei.cells)) base (parts.toList.map fun x=>(x.1,a.eval x.2))=some r:=by rw [he]; exact hr
      simp only [execOp,ho,Instr.buildSlice,Sem.run_bind,run_underlying hdesc,Result.andThen_ok,(hT e ei hei).sizeOf,if_neg hsm',Sem.run_pure,Array.toList_map]
      have hpe:(List.map (fun x:Nat×Operand=>(x.1,a.eval x.2)) parts.toList)=List.map (fun (i,x)=>(i,a.eval x)) parts.toList:=rfl
      rw [hpe] at hr' he
      by_cases h0:len * ei.cells=0
      ·have hx0:xs=[]:=by
        apply List.eq_nil_of_length_eq_zero
        rcases Nat.mul_eq_zero.1 h0 with h | h <;> omega
       subst hx0
       simp only [List.map_nil,List.zipIdx_nil,List.map_eq_nil_iff] at he
       rw [he] at hr' ⊢
       simp only [List.map_nil,Instr.fill,Option.some.injEq] at hr'
       have hr0:r = #[]:=by rw [<- hr']; simp [base,h0]
       subst hr0
       have hl0:len=0:=by simpa using hlen.symm
       subst hl0
       simp [Instr.fill,newRow,arr_range0]
      ·simp only [if_neg h0,Sem.run_bind,hzv,Result.andThen_ok,Sem.run_pure]
       simp only [base,if_neg h0] at hr'
       rw [hr']
       simp [newRow,hlen]
     ·have:r.toList.length=len * ei.cells:=by rw [hrl',hfl]
      simpa [hlen] using this
     ·rw [hrl']; simpa using k1 []
     ·rw [hrl']; exact k3
    ·cases h
   ·cases h
  ·cases h
 ·cases h
theorem range_mod (zero:Array Value)(z:Nat)(hz:zero.size=z)(h1:1<=z):∀ k:Nat,((Array.range (k * z)).map (fun i=>zero[i % zero.size]!)).toList=(List.replicate k zero.toList).flatten
 | 0=>by simp
 | k + 1=>by
  have ih:=range_mod zero z hz h1 k
  simp only [Array.toList_map,Array.toList_range] at ih ⊢
  rw [Nat.add_mul,Nat.one_mul,List.range_add,List.map_append,ih,List.replicate_succ',List.flatten_append]
  congr 1
  simp only [List.map_map,List.flatten_cons,List.flatten_nil,List.append_nil]
  apply List.ext_getElem?
  intro j
  by_cases hj:j<z
  ·rw [List.getElem?_map,List.getElem?_range hj]
   simp only [Option.map_some,Function.comp_apply,hz]
   rw [show k * z + j=j + k * z from Nat.add_comm _ _,Nat.add_mul_mod_self_right,Nat.mod_eq_of_lt hj]
   have:j<zero.size:=om
   simp [this]
  ·rw [List.getElem?_eq_none (by simp; omega),List.getElem?_eq_none (by simp; omega)]
def zeroSV (ti:TI):Option SV :=
 match ti.agg with
 | true=>match Nat.beq ti.zero.length ti.cells,ti.zero.all SV.single with
  | true,true=>some (.agg ti.zero)
  | _,_=>none
 | false=>match ti.zero with
  | [s]=>match Nat.beq ti.cells 1,s.single with
   | true,true=>some s
   | _,_=>none
  | _=>none
theorem DenE_replicate {Γ:Gh}{z:Nat}{s:SV}{v:Value}(hs:Den Γ Env.nil s v)(hz:v.cells.size=z):∀ k:Nat,DenE Γ z (List.replicate k s) ((List.replicate k v.cells.toList).flatten)
 | 0=>by simp [DenE]
 | k + 1=>by
  have hl:v.cells.toList.length=z:=by simpa using hz
  simp only [List.replicate_succ,List.flatten_cons,DenE]
  refine ⟨⟨v,hs,hz,by rw [List.take_append_of_le_length om,List.take_of_length_le om]⟩,?_⟩
  rw [List.drop_append_of_le_length om,List.drop_of_length_le om,List.nil_append]
  exact DenE_replicate hs hz k
def xmakeSlice (T:Tab)(fr:Fr)(mem:Mem)(nx:Nat)(t:Nat)(l c:Operand):R :=
 match fnd T t with
 | some ti=>match ti.d with
  | .slice e=>match fnd T e with
   | some ei=>match zeroSV ei,evo fr l,evo fr c,Nat.ble 1 ei.cells with
    | some zs,.int _ n,.int _ m,true=>some (.own nx,(nx,.row ei.cells e (List.replicate n.toNat zs)) :: mem,nx + 1,n=m/\0<=n/\n<=1099511627776/\(ei.bytes:Int) * n<=140737488355328)
    | _,_,_,_=>none
   | none=>none
  | _=>none
 | none=>none
theorem ok_makeSlice (hT:TabOk P T){t:Nat}{l c:Operand}(ho:o.op = .makeSlice t l c){sv:SV}{mem':Mem}{nx':Nat}{k:Prop}(h:xmakeSlice T fr mem nx t l c=some (sv,mem',nx',k))(hk:k):OpOk P N fr mem nx o sv mem' nx':=by
 unfold xmakeSlice at h
 split at h
 ·rename_i ti hti
  have hdesc:=(hT t ti hti).desc
  split at h
  ·rename_i e hd
   rw [hd] at hdesc; simp only [DescOk] at hdesc
   split at h
   ·rename_i ei hei
    split at h
    ·rename_i zs k1 n k2 m hzs hl hc hz1
     simp only [Option.some.injEq,Prod.mk.injEq] at h
     obtain ⟨rfl,rfl,rfl,rfl⟩:=h
     obtain ⟨rfl,hk1,hk2,hk3⟩:=hk
     have hz1:1<=ei.cells:=Nat.le_of_ble_eq_true hz1
     refine ok_newRow fun Γ ρ w a hi hf=>?_
     have g1:=(evo_den hf l).1; have g2:=(evo_den hf c).1
     rw [hl] at g1; rw [hc] at g2; simp only [Den] at g1 g2
     obtain ⟨inf,hinf,hsz,hby,_⟩:=(hT e ei hei).typeInfo
     obtain ⟨zv,hzv,hzc⟩:=(hT e ei hei).zeroValue
     obtain ⟨d1,d2,_,_⟩:=consts_den (Γ:=Γ) (ρ:=Env.nil) (n:=0) hzc
     have hlen:=d1.length
     have hv:∃ u:Value,Den Γ Env.nil zs u/\u.cells.size=ei.cells/\u.cells.toList=zv.cells.toList:=by
      unfold zeroSV at hzs
      split at hzs
      ·split at hzs
       ·rename_i h1 h2
        cases hzs
        refine ⟨.agg zv.cells,by simp only [Den]; exact ⟨_,rfl,d1⟩,?_,rfl⟩
        have:ei.zero.length=ei.cells:=Nat.eq_of_beq_eq_true h1
        simp [Value.cells] at hlen ⊢; omega
       ·cases hzs
      ·split at hzs
       ·rename_i s hs
        split at hzs
        ·rename_i h1 h2
         cases hzs
         rw [hs] at d1
         simp only [DenL] at d1
         obtain ⟨u,r,e1,e2,e3⟩:=d1
         subst e3
         have h3:=e2.single h2
         refine ⟨u,e2,?_,?_⟩
         ·rw [cells_of_one h3]; simpa using (Nat.eq_of_beq_eq_true h1).symm
         ·rw [cells_of_one h3,e1]
        ·cases hzs
       ·cases hzs
     obtain ⟨u,hu1,hu2,hu3⟩:=hv
     have hzsz:zv.cells.size=ei.cells:=by
      have:=congrArg List.length hu3
      simp at this; omega
     have hw:IntKind.i64.wrap n=n:=by
      exact IntWalk.i64_in n om
     refine ⟨(Array.range (n.toNat * ei.cells)).map (zv.cells[· % zv.cells.size]!),?_,by simp,?_,?_⟩
     ·have hb2:¬ ((ei.bytes:Int) * n>2 ^ 48):=om
      have hneg:¬ n<0:=om
      simp only [execOp,ho,Instr.makeSlice,Sem.run_bind,run_underlying hdesc,Result.andThen_ok,g1,g2,asInt,asIntOf,Sem.run_pure,hinf,hby,hw,hneg,hb2,decide_false,Bool.or_self,Bool.false_eq_true,if_false,Int.lt_irrefl,gt_iff_lt]
      simp only [(hT e ei hei).sizeOf,Result.andThen_ok,run_askRoom]
      by_cases h0:n.toNat * ei.cells=0
      ·simp [h0,newRow,arr_range0]
      ·simp [h0,hzv,newRow]
     ·rw [range_mod zv.cells ei.cells hzsz hz1,<- hu3]
      exact DenE_replicate hu1 hu2 _
     ·rw [range_mod zv.cells ei.cells hzsz hz1]
      intro c hc
      rw [List.mem_flatten] at hc
      obtain ⟨l,hl,hc⟩:=hc
      rw [List.mem_replicate] at hl
      rw [hl.2] at hc
      exact d2 c hc
    ·cases h
   ·cases h
  ·cases h
 ·cases h
end
theorem DenE.drop {Γ:Gh}{z:Nat} : ∀ (n:Nat) {xs:List SV} {cs:List Value},DenE Γ z xs cs->DenE Γ z (xs.drop n) (cs.drop (n * z))
 | 0,_,_,h=>by simpa using h
 | n + 1,[],_,_=>by simp [DenE]
 | n + 1,s :: xs,cs,h=>by
  simp only [DenE] at h
  have:=DenE.drop n h.2
  rw [List.drop_drop] at this
  simp only [List.drop_succ_cons]
  have e:(n + 1) * z=z + n * z:=by rw [Nat.add_mul]; omega
  rw [e]; exact this
theorem DenE.take {Γ:Gh}{z:Nat} : ∀ (n:Nat) {xs:List SV} {cs:List Value},DenE Γ z xs cs->DenE Γ z (xs.take n) cs
 | 0,_,_,_=>by simp [DenE]
 | n + 1,[],_,_=>by simp [DenE]
 | n + 1,s :: xs,cs,h=>by
  simp only [DenE] at h
  simp only [List.take_succ_cons,DenE]
  exact ⟨h.1,DenE.take n h.2⟩
section
variable {P:Program} {T:Tab} {N:Nat} {fr:Fr} {mem:Mem} {nx:Nat} {o:Oper}
def bnd (fr:Fr):Option Operand->Option (Option Int)
 | none=>some none
 | some x=>match evo fr x with
  | .int _ n=>some (some n)
  | _=>none
def xslice (T:Tab)(fr:Fr)(mem:Mem)(nx:Nat)(t:Nat)(x:Operand)(lo hi mx:Option Operand):R :=
 match fnd T t with
 | some ti=>match ti.d with
  | .slice e=>match fnd T e,bnd fr lo,bnd fr hi,bnd fr mx with
   | some ei,some l,some h,some m=>match evo fr x with
    | .sl _ z xs=>match Nat.beq z ei.cells with
     | true=>match l,h,m with
      | l,some h,some m=>some (.sl true z ((xs.take h.toNat).drop (l.getD 0).toNat),mem,nx,0<=l.getD 0/\l.getD 0<=h/\h=m/\h<=(xs.length:Int))
      | l,some h,none=>some (.sl false z ((xs.take h.toNat).drop (l.getD 0).toNat),mem,nx,0<=l.getD 0/\l.getD 0<=h/\h<=(xs.length:Int))
      | l,none,none=>some (.sl false z (xs.drop (l.getD 0).toNat),mem,nx,0<=l.getD 0/\l.getD 0<=(xs.length:Int))
      | _,none,some _=>none
     | false=>none
    | _=>none
   | _,_,_,_=>none
  | _=>none
 | none=>none
theorem bnd_den {Γ:Gh}{ρ:Env}{a:Act}(hf:FrDen Γ ρ nx N fr a){x:Option Operand}{n:Option Int}(h:bnd fr x=some n):(x=none/\n=none)\/∃ x' k i,x=some x'/\n=some i/\a.eval x' = .int k i:=by
 cases x with
 | none=>simp [bnd] at h; exact .inl ⟨rfl,h.symm⟩
 | some x =>
  simp only [bnd] at h
  split at h
  ·rename_i k i hx
   simp only [Option.some.injEq] at h
   have:=(evo_den hf x).1
   rw [hx] at this; simp only [Den] at this
   exact .inr ⟨x,k,i,rfl,h.symm,this⟩
  ·cases h
theorem run_bound {k:IntKind}{i:Int}{y:Nat}{c:BoundsCode}(w:World)(h0:0<=i)(h1:i<=(y:Int)):(Instr.sliceBound (.int k i) y c).run P w = .ok i.toNat w:=by
 simp [Instr.sliceBound,asIntOf,h0,h1]
theorem sl_cut {Γ:Gh}{x:Bool}{z:Nat}{xs:List SV}{v:Value}{ρ:Env}(h:Den Γ ρ (.sl x z xs) v)(l hh:Nat)(hl:l<=hh)(hle:hh<=xs.length) :
  ∃ base len cap,v = .slice base len cap/\len=xs.length/\len<=cap /\
   (∀ m,hh<=m->m<=cap->(∀ e:Bool,(e=true->m=hh)->Den Γ ρ (.sl e z ((xs.take hh).drop l)) (.slice (if m=l then base else base.map (·.add (l * z))) (hh - l) (m - l)))):=by
 simp only [Den] at h
 rcases h with ⟨ad,rfl,rfl⟩ | ⟨b,off,cap,cs,rfl,h1,h2,h3,h4,h5⟩
 ·refine ⟨ad,0,0,rfl,rfl,Nat.le_refl _,fun m hm hmc e he=>?_⟩
  simp only [List.length_nil] at hle
  have:hh=0:=om
  have:l=0:=om
  have:m=0:=om
  subst_vars
  simp [Den]
 ·refine ⟨_,_,cap,rfl,rfl,h1,fun m hm hmc e he=>?_⟩
  simp only [Den]
  have hlen:((xs.take hh).drop l).length=hh - l:=by simp; omega
  refine .inr ⟨b,if m=l then off else off + l * z,m - l,cs,?_,om,fun h=>by have:=he h; omega,h3,?_,?_⟩
  ·rw [hlen]
   split
   ·rfl
   ·simp [add_addr]
  ·split
   ·rename_i e; subst e; simp
    exact Nat.le_trans (Nat.le_add_right _ _) h4
   ·have:(m - l) * z + l * z<=cap * z:=by
     rw [<- Nat.add_mul]; exact Nat.mul_le_mul_right _ om
    omega
  ·have h6:=(h5.take hh).drop l
   rw [List.drop_drop] at h6
   split
   ·rename_i e
    subst e
    have:hh=m:=om
    subst this
    simp [DenE]
   ·exact h6
theorem ok_slice (hT:TabOk P T){t:Nat}{x:Operand}{lo hi mx:Option Operand}(ho:o.op = .slice t x lo hi mx){sv:SV}{mem':Mem}{nx':Nat}{k:Prop}(h:xslice T fr mem nx t x lo hi mx=some (sv,mem',nx',k))(hk:k):OpOk P N fr mem nx o sv mem' nx':=by
 unfold xslice at h
 split at h
 ·rename_i ti hti
  have hdesc:=(hT t ti hti).desc
  split at h
  ·rename_i e hd
   rw [hd] at hdesc; simp only [DescOk] at hdesc
   split at h
   ·rename_i ei l hh m hei hbl hbh hbm
    split at h
    ·rename_i xb z xs hx
     split at h
     ·rename_i hz
      have hz:z=ei.cells:=Nat.eq_of_beq_eq_true hz
      have hse:=(hT e ei hei).sizeOf
      have hund:∀ w,(underlying t).run P w = .ok (.slice e) w:=run_underlying hdesc
      split at h
      ·rename_i h' m'
       simp only [Option.some.injEq,Prod.mk.injEq] at h
       obtain ⟨rfl,rfl,rfl,rfl⟩:=h
       obtain ⟨k1,k2,rfl,k3⟩:=hk
       refine OpOk.pure fun Γ ρ w a hi' hf=>?_
       have g:=(evo_den hf x).1
       rw [hx] at g
       obtain ⟨base,len,cap,hv,hlen,hcap,hcut⟩:=sl_cut g (l.getD 0).toNat h'.toNat om om
       have hd2:=hcut h'.toNat (Nat.le_refl _) om true (fun _=>rfl)
       refine ⟨_,?_,hd2,rfl⟩
       rcases bnd_den hf hbh with ⟨_,h0⟩ | ⟨hx',hk',hi'',rfl,h0,hev⟩
       ·cases h0
       cases h0
       rcases bnd_den hf hbm with ⟨_,h0⟩ | ⟨mx',mk',mi'',rfl,h0,mev⟩
       ·cases h0
       cases h0
       have hm1:=run_bound (P:=P) (k:=mk') (i:=h') (y:=cap) (c:=.slice3Acap) w om om
       have hm2:=run_bound (P:=P) (k:=hk') (i:=h') (y:=h'.toNat) (c:=.slice3B) w om om
       rcases bnd_den hf hbl with ⟨rfl,rfl⟩ | ⟨lx',lk',li'',rfl,rfl,lev⟩
       ·simp [execOp,ho,hv,Instr.sliceAt,Instr.slice,hund,Instr.sliceBounds,hev,mev,hm1,hm2,hse,hz]
       ·have hm3:=run_bound (P:=P) (k:=lk') (i:=li'') (y:=h'.toNat) (c:=.slice3C) w (by simpa using k1) (by simp at k2; omega)
        simp [execOp,ho,hv,Instr.sliceAt,Instr.slice,hund,Instr.sliceBounds,hev,mev,lev,hm1,hm2,hm3,hse,hz]
      ·rename_i h'
       simp only [Option.some.injEq,Prod.mk.injEq] at h
       obtain ⟨rfl,rfl,rfl,rfl⟩:=h
       obtain ⟨k1,k2,k3⟩:=hk
       refine OpOk.pure fun Γ ρ w a hi' hf=>?_
       have g:=(evo_den hf x).1
       rw [hx] at g
       obtain ⟨base,len,cap,hv,hlen,hcap,hcut⟩:=sl_cut g (l.getD 0).toNat h'.toNat om om
       have hd2:=hcut cap om (Nat.le_refl _) false (fun h=>by cases h)
       refine ⟨_,?_,hd2,rfl⟩
       rcases bnd_den hf hbh with ⟨_,h0⟩ | ⟨hx',hk',hi'',rfl,h0,hev⟩
       ·cases h0
       cases h0
       rcases bnd_den hf hbm with ⟨rfl,h0⟩ | ⟨mx',mk',mi'',rfl,h0,mev⟩
       ·have hm1:=run_bound (P:=P) (k:=hk') (i:=h') (y:=cap) (c:=.sliceAcap) w om om
        rcases bnd_den hf hbl with ⟨rfl,rfl⟩ | ⟨lx',lk',li'',rfl,rfl,lev⟩
        ·simp [execOp,ho,hv,Instr.sliceAt,Instr.slice,hund,Instr.sliceBounds,hev,hm1,hse,hz]
        ·have hm3:=run_bound (P:=P) (k:=lk') (i:=li'') (y:=h'.toNat) (c:=.sliceB) w (by simpa using k1) (by simp at k2; omega)
         simp [execOp,ho,hv,Instr.sliceAt,Instr.slice,hund,Instr.sliceBounds,hev,lev,hm1,hm3,hse,hz]
       ·cases h0
      ·skip
       simp only [Option.some.injEq,Prod.mk.injEq] at h
       obtain ⟨rfl,rfl,rfl,rfl⟩:=h
       obtain ⟨k1,k3⟩:=hk
       refine OpOk.pure fun Γ ρ w a hi' hf=>?_
       have g:=(evo_den hf x).1
       rw [hx] at g
       obtain ⟨base,len,cap,hv,hlen,hcap,hcut⟩:=sl_cut g (l.getD 0).toNat xs.length om (Nat.le_refl _)
       have hd2:=hcut cap om (Nat.le_refl _) false (fun h=>by cases h)
       rw [List.take_length] at hd2
       refine ⟨_,?_,hd2,rfl⟩
       rcases bnd_den hf hbh with ⟨rfl,h0⟩ | ⟨hx',hk',hi'',rfl,h0,hev⟩
       ·rcases bnd_den hf hbm with ⟨rfl,h0⟩ | ⟨mx',mk',mi'',rfl,h0,mev⟩
        ·rcases bnd_den hf hbl with ⟨rfl,rfl⟩ | ⟨lx',lk',li'',rfl,rfl,lev⟩
         ·simp [execOp,ho,hv,Instr.sliceAt,Instr.slice,hund,Instr.sliceBounds,hse,hz,hlen]
         ·have hm3:=run_bound (P:=P) (k:=lk') (i:=li'') (y:=xs.length) (c:=.sliceB) w (by simpa using k1) (by simpa using k3)
          simp [execOp,ho,hv,Instr.sliceAt,Instr.slice,hund,Instr.sliceBounds,lev,hm3,hse,hz,hlen]
        ·cases h0
       ·cases h0
      ·cases h
     ·cases h
    ·cases h
   ·cases h
  ·cases h
 ·cases h
def xop1 (T:Tab)(fr:Fr)(mem:Mem)(nx:Nat)(o:Op)(q:SV):R :=
 match o with
 | .move x=>some (evo fr x,mem,nx,True)
 | .assign x=>some (evo fr x,mem,nx,True)
 | .pick c a b=>xpick fr mem nx c a b q
 | .alloc t=>xalloc T mem nx t
 | .box t x=>xbox fr mem nx t x
 | .load t x=>xload T fr mem nx t x q
 | .store t x v=>xstore T fr mem nx t x v
 | .fieldAddr s x f=>xfieldAddr T fr mem nx s x f
 | .indexAddr t x i=>xindexAddr T fr mem nx t x i q
 | .unOp .not _ x=>xnot fr mem nx x
 | .binOp op t x y _=>xbinOp T fr mem nx op t x y q
 | .convert s d x=>xconv T fr mem nx s d x q
 | .build t parts=>xbuild T fr mem nx t parts
 | .buildSlice t len parts=>xbuildSlice T fr mem nx t len parts
 | .makeSlice t l c=>xmakeSlice T fr mem nx t l c
 | .slice t x lo hi mx=>xslice T fr mem nx t x lo hi mx
 | .makeFunc (.func f) first cap=>xmakeFunc fr mem nx f first cap
 | .extract x i=>xextract fr mem nx x i
 | .field s x f=>xfield T fr mem nx s x f
 | .call ⟨.builtin .len,⟨[x]⟩,⟨[t]⟩⟩=>xlen T fr mem nx t x q
 | .call ⟨.builtin .max,⟨[x,y]⟩,_⟩=>xmm true fr mem nx x y q
 | .call ⟨.builtin .min,⟨[x,y]⟩,_⟩=>xmm false fr mem nx x y q
 | _=>none
theorem xop1_sound (hT:TabOk P T){q sv:SV}{mem':Mem}{nx':Nat}{k:Prop}(h:xop1 T fr mem nx o.op q=some (sv,mem',nx',k))(hk:k):OpOk P N fr mem nx o sv mem' nx':=by
 unfold xop1 at h
 split at h
 ·rename_i ho
  simp only [Option.some.injEq,Prod.mk.injEq] at h
  obtain ⟨rfl,rfl,rfl,rfl⟩:=h
  exact ok_move (.inl ho)
 ·rename_i ho
  simp only [Option.some.injEq,Prod.mk.injEq] at h
  obtain ⟨rfl,rfl,rfl,rfl⟩:=h
  exact ok_move (.inr ho)
 ·rename_i ho; exact ok_pick ho h hk
 ·rename_i ho; exact ok_alloc hT ho h
 ·rename_i ho; exact ok_box ho h
 ·rename_i ho; exact ok_load hT ho h hk
 ·rename_i ho; exact ok_store hT ho h hk
 ·rename_i ho; exact ok_fieldAddr hT ho h
 ·rename_i ho; exact ok_indexAddr hT ho h hk
 ·rename_i ho; exact ok_not ho h
 ·rename_i ho; exact ok_binOp hT ho h hk
 ·rename_i ho; exact ok_conv hT ho h hk
 ·rename_i ho; exact ok_build hT ho h
 ·rename_i ho; exact ok_buildSlice hT ho h
 ·rename_i ho; exact ok_makeSlice hT ho h hk
 ·rename_i ho; exact ok_slice hT ho h hk
 ·rename_i ho; exact ok_makeFunc ho h
 ·rename_i ho; exact ok_extract ho h
 ·rename_i ho; exact ok_field hT ho h
 ·rename_i ho; exact ok_len hT ho h hk
 ·rename_i ho; exact ok_max ho h hk
 ·rename_i ho; exact ok_min ho h hk
 ·cases h
end
def del:Mem->Nat->Mem
  | [],_=>[]
  | (k,v) :: l,n=>match Nat.beq k n with
    | true=>del l n
    | false=>(k,v) :: del l n
theorem fnd_del (l:Mem)(n m:Nat):fnd (del l n) m=if m=n then none else fnd l m:=by
  induction l with
  | nil=>simp [del,fnd]
  | cons p l ih =>
    obtain ⟨k,v⟩:=p
    simp only [del]
    split
    · rename_i h
      have hk:k=n:=Nat.eq_of_beq_eq_true h
      rw [ih,fnd_cons]
      by_cases hm:m=n
      · simp [hm]
      · rw [if_neg hm,if_neg hm,if_neg (fun e=>hm om)]
    · rename_i h
      have hk:k≠n:=fun e=>by subst e; simp at h
      rw [fnd_cons,fnd_cons,ih]
      by_cases hm:m=n
      · subst hm; simp [hk]
      · by_cases hkm:k=m
        · simp [hkm,hm]
        · simp [hkm,hm]
def ElemOk (s:SV):Prop:=(cellsOf s).isSome=true
theorem DenE.take_len {Γ:Gh}{z:Nat} : ∀ {xs:List SV} {cs:List Value},DenE Γ z xs cs->DenE Γ z xs (cs.take (xs.length * z))
  | [],_,_=>by simp [DenE]
  | x :: xs,cs,h=>by
    simp only [DenE] at h ⊢
    obtain ⟨⟨v,h1,h2,h3⟩,h4⟩:=h
    have e:(x :: xs).length * z=z + xs.length * z:=by simp only [List.length_cons,Nat.add_mul]; omega
    rw [e]
    refine ⟨⟨v,h1,h2,?_⟩,?_⟩
    · rw [h3,List.take_take,Nat.min_eq_left om]
    · rw [List.drop_take]
      have:=DenE.take_len h4
      rwa [show z + xs.length * z - z=xs.length * z by omega]
theorem DenE.append {Γ:Gh}{z:Nat} : ∀ {xs ys:List SV} {cs ds:List Value},DenE Γ z xs cs->cs.length=xs.length * z->DenE Γ z ys ds->DenE Γ z (xs++ys) (cs++ds)
  | [],ys,cs,ds,_,hl,h=>by
    have:cs=[]:=List.eq_nil_of_length_eq_zero (by simpa using hl)
    subst this; simpa using h
  | x :: xs,ys,cs,ds,h,hl,h'=>by
    simp only [DenE,List.cons_append] at h ⊢
    obtain ⟨⟨v,h1,h2,h3⟩,h4⟩:=h
    have e:cs.length=z + xs.length * z:=by rw [hl]; simp only [List.length_cons,Nat.add_mul]; omega
    refine ⟨⟨v,h1,h2,?_⟩,?_⟩
    · rw [List.take_append_of_le_length om]; exact h3
    · rw [List.drop_append_of_le_length om]
      exact DenE.append h4 (by simp; omega) h'
theorem DenE.one {Γ:Gh}{z:Nat} : ∀ {xs:List SV} {cs:List Value},DenE Γ z xs cs->(∀ x∈xs,ElemOk x)->∀ c∈cs.take (xs.length * z),c.oneCell'=true
  | [],cs,_,_,c,hc=>by simp at hc
  | x :: xs,cs,h,ho,c,hc=>by
    simp only [DenE] at h
    obtain ⟨⟨v,h1,h2,h3⟩,h4⟩:=h
    have e:(x :: xs).length * z=z + xs.length * z:=by simp only [List.length_cons,Nat.add_mul]; omega
    rw [e,List.take_add,List.mem_append] at hc
    rcases hc with hc | hc
    · rw [<- h3] at hc
      obtain ⟨n,hn⟩:=Option.isSome_iff_exists.1 (ho x (by simp))
      exact (cellsOf_den (n:=0) hn h1 (h1.nil_bd 0)).2.1 c hc
    · exact DenE.one h4 (fun y hy=>ho y (by simp [hy])) c hc
section
variable {P:Program} {T:Tab} {N:Nat} {fr:Fr} {mem:Mem} {nx:Nat} {o:Oper}
def srcOf (fr:Fr)(mem:Mem)(z:Nat)(y:Operand):Option (List SV×Option Nat×Prop) :=
  match evo fr y with
  | .nils=>some ([],none,True)
  | .sl _ z' ys=>match Nat.beq z' z with
    | true=>some (ys,none,∀ y∈ys,ElemOk y)
    | false=>none
  | .own r=>match fnd mem r with
    | some (.row z' _ ys)=>match Nat.beq z' z with
      | true=>some (ys,some r,True)
      | false=>none
    | _=>none
  | _=>none
theorem srcOf_sound (hT:TabOk P T){z t2:Nat}{ti:TI}{e2:Nat}(hz1:1<=z)(ht2:fnd T t2=some ti)(hd2:ti.d = .slice e2){y:Operand}{ys:List SV}{rr:Option Nat}{k:Prop}(h:srcOf fr mem z y=some (ys,rr,k))(hk:k){Γ:Gh}{ρ:Env}{w:World}{a:Act}(hi:Inv Γ ρ nx mem w)(hf:FrDen Γ ρ nx N fr a) :
    ∃ news:List Value,Src P z t2 (a.eval y) ys.length news w/\DenE Γ z ys news/\news.length=ys.length * z/\(∀ c∈news,c.oneCell'=true):=by
  have hdesc:=(hT t2 ti ht2).desc
  rw [hd2] at hdesc; simp only [DescOk] at hdesc
  have g:=(evo_den hf y).1
  unfold srcOf at h
  split at h
  · rename_i hy
    simp only [Option.some.injEq,Prod.mk.injEq] at h
    obtain ⟨rfl,rfl,rfl⟩:=h
    rw [hy] at g; simp only [Den] at g
    rw [g]
    exact ⟨[],Src.ofNil w hdesc 0,by simp [DenE],by simp,by simp⟩
  · rename_i x z' ys' hy
    split at h
    · rename_i hz
      have hz:z'=z:=Nat.eq_of_beq_eq_true hz
      subst hz
      simp only [Option.some.injEq,Prod.mk.injEq] at h
      obtain ⟨rfl,rfl,rfl⟩:=h
      rw [hy] at g; simp only [Den] at g
      rcases g with ⟨ad,g1,g2⟩ | ⟨b,off,cap,cs,g1,g2,_,g3,g4,g5⟩
      · subst g2; rw [g1]
        cases ad with
        | none=>exact ⟨[],Src.ofNil w hdesc 0,by simp [DenE],by simp,by simp⟩
        | some ad=>exact ⟨[],Src.ofSlice w hdesc ad 0 0 [] (by simp) (fun j u hj=>by simp at hj) (by simp),by simp [DenE],by simp,by simp⟩
      · obtain ⟨E,fz,hb⟩:=hi.pub b cs g3
        have hlen:ys'.length * z'<=(cs.drop off).length:=g5.len
        refine ⟨(cs.drop off).take (ys'.length * z'),?_,g5.take_len,by simp at hlen ⊢; omega,g5.one hk⟩
        rw [g1]
        refine Src.ofSlice w hdesc ⟨b,off,none⟩ ys'.length cap _ (by simp at hlen ⊢; omega) (fun j u hj=>?_) (g5.one hk)
        rw [add_addr,cell_of_row w b (off + j) cs.toArray E fz hb]
        have hjl:j<ys'.length * z':=by
          have:=(List.getElem?_eq_some_iff.1 hj).1
          simp at this; omega
        rw [List.getElem?_take_of_lt hjl,List.getElem?_drop] at hj
        simpa using hj
    · cases h
  · rename_i r hy
    split at h
    · rename_i z' E ys' hm
      split at h
      · rename_i hz
        have hz:z'=z:=Nat.eq_of_beq_eq_true hz
        subst hz
        simp only [Option.some.injEq,Prod.mk.injEq] at h
        obtain ⟨rfl,rfl,rfl⟩:=h
        rw [hy] at g; simp only [Den] at g
        obtain ⟨⟨v,hv,q⟩,_,_⟩:=hi.priv r _ hm
        rw [g.1] at hv; cases hv
        rcases q with ⟨q1,q2,_⟩ | ⟨b,arr,cap,q1,q2,q3,q4,q5,q6,q7,_⟩
        · subst q2; rw [q1]
          exact ⟨[],Src.ofNil w hdesc 0,by simp [DenE],by simp,by simp⟩
        · have hcap:ys'.length * z'<=arr.size:=by rw [q5]; exact Nat.mul_le_mul_right _ q4
          have hone:∀ c∈arr.toList.take (ys'.length * z'),c.oneCell'=true:=fun c hc=>q7 c (List.mem_of_mem_take hc)
          refine ⟨arr.toList.take (ys'.length * z'),?_,q6.take_len,by simp; omega,hone⟩
          rw [q2]
          refine Src.ofSlice w hdesc ⟨b,0,none⟩ ys'.length cap _ (by simp; omega) (fun j u hj=>?_) hone
          rw [add_addr,cell_of_row w b (0 + j) arr E _ q3]
          have hjl:j<ys'.length * z':=by
            have:=(List.getElem?_eq_some_iff.1 hj).1
            simp at this; omega
          rw [List.getElem?_take_of_lt hjl] at hj
          simpa using hj
      · cases h
    · cases h
  · cases h
def ontoOf (fr:Fr)(mem:Mem)(z e:Nat)(x:Operand):Option (List SV×Option Nat×Bool) :=
  match evo fr x with
  | .nils=>some ([],none,false)
  | .sl true z' xs=>match Nat.beq z' z with
    | true=>some (xs,none,true)
    | false=>none
  | .own r=>match fnd mem r with
    | some (.row z' E xs)=>match Nat.beq z' z,Nat.beq E e with
      | true,true=>some (xs,some r,false)
      | _,_=>none
    | _=>none
  | _=>none
def optNe (a b:Option Nat):Bool:=match a,b with
  | some x,some y=>match Nat.beq x y with
    | true=>false
    | false=>true
  | _,_=>true
def xappend (T:Tab)(fr:Fr)(mem:Mem)(nx:Nat)(t t2:Nat)(x y:Operand):R :=
  match fnd T t,fnd T t2 with
  | some ti,some ti2=>match ti.d,ti2.d with
    | .slice e,.slice _=>match fnd T e with
      | some ei=>match Nat.ble 1 ei.cells,ontoOf fr mem ei.cells e x,srcOf fr mem ei.cells y with
        | true,some (xs,r,ex),some (ys,r2,k)=>match optNe r r2 with
          | true=>some (.own nx,(nx,.row ei.cells e (xs++ys)) :: (match r with | some r=>del mem r | none=>mem),nx + 1,
              k/\(ex=true->1<=ys.length/\∀ x∈xs,ElemOk x)/\(xs.length + ys.length) * ei.bytes<=140737488355328/\xs.length + ys.length<=4611686018427387904)
          | false=>none
        | _,_,_=>none
      | none=>none
    | _,_=>none
  | _,_=>none
theorem Inv.del {Γ:Gh}{ρ:Env}{mem:Mem}{w:World}(h:Inv Γ ρ nx mem w)(r:Nat):Inv Γ ρ nx (del mem r) w where
  pub:=h.pub
  priv r' B hB:=by
    rw [fnd_del] at hB
    split at hB
    · cases hB
    · exact h.priv r' B hB
  inj r1 r2 b B B' h1 h2:=by
    rw [fnd_del] at h1 h2
    split at h1 <;> split at h2 <;> first | (cases h1; done) | (cases h2; done) | exact h.inj r1 r2 b B B' h1 h2
theorem Stp.del {ρ:Env}{mem:Mem}{w:World}(r:Nat):Stp ρ mem w ρ (X.del mem r) w :=
  ⟨rfl,rfl,rfl,Nat.le_refl _,fun _ _ _=>rfl,fun b ⟨r',B,h1,h2⟩=>.inl (by
    rw [fnd_del] at h1
    split at h1
    · cases h1
    · exact ⟨r',B,h1,h2⟩)⟩
theorem zeroCells_one {zc:Array Value}(h:∀ c∈zc.toList,c.oneCell'=true)(n:Nat):∀ c∈(Builtin.zeroCells zc n).toList,c.oneCell'=true:=by
  intro c hc
  simp only [Builtin.zeroCells,Array.toList_map,Array.toList_range,List.mem_map,List.mem_range] at hc
  obtain ⟨i,hi,rfl⟩:=hc
  have hz:0<zc.size:=by
    rcases Nat.eq_zero_or_pos zc.size with h0 | h0
    · rw [h0] at hi; simp at hi
    · exact h0
  have hlt:=Nat.mod_lt i hz
  simp only [getElem!_pos zc (i % zc.size) hlt]
  exact h _ (by simp)
def Leaves (P:Program)(o:Oper)(nx:Nat)(mem:Mem)(Γ:Gh)(ρ:Env)(w:World)(a:Act)(sv:SV)(mem':Mem)(nx':Nat):Prop :=
  ∃ v r Γ' ρ' w',(execOp a.eval o).run P w = .ok r w'/\(r = .value v\/r = .skip/\v=undef) /\
    Den Γ' ρ' sv v/\sv.bd nx'=true/\Inv Γ' ρ' nx' mem' w'/\Env.same nx ρ ρ'/\nx<=nx'/\Stp ρ mem w ρ' mem' w'/\Γ.le Γ'/\∀ b,Γ' b≠none->Γ b≠none\/Owned ρ mem b\/w.heap.size<=b
theorem leaves_new {Γ:Gh}{ρ:Env}{w:World}{a:Act}{mem1:Mem}(hi:Inv Γ ρ nx mem1 w)(hst:Stp ρ mem w ρ mem1 w){z E cap:Nat}{xs:List SV}{arr:Array Value}
    (hrun:(execOp a.eval o).run P w = .ok (.value (.slice (some ⟨w.heap.size,0,none⟩) xs.length cap)) (w.drew.alloc (.cells arr E))) (hcap:xs.length<=cap) (hsz:arr.size=cap * z) (hE:DenE Γ z xs arr.toList) (hone:∀ c∈arr.toList,c.oneCell'=true) :
    Leaves P o nx mem Γ ρ w a (.own nx) ((nx,.row z E xs) :: mem1) (nx + 1):=by
  have hid:Inv Γ ρ nx mem1 w.drew:=⟨hi.pub,hi.priv,hi.inj⟩
  refine ⟨.slice (some ⟨w.heap.size,0,none⟩) xs.length cap,_,Γ,ρ.add nx (some w.drew.heap.size) (some (.slice (some ⟨w.heap.size,0,none⟩) xs.length cap)),w.drew.alloc (.cells arr E),hrun,.inl rfl,?_,by simp [SV.bd],hid.alloc _ _ (.row z E xs) ?_ rfl,Env.add_same _ _ _ _,Nat.le_succ _,?_,Gh.le_refl _,fun _ hb=>.inl hb⟩
  · simp only [Den]; exact ⟨Env.add_val _ _ _ _,rfl⟩
  · refine ⟨_,Env.add_val _ _ _ _,.inr ⟨w.heap.size,arr,cap,Env.add_blk _ _ _ _,rfl,heap_alloc_new _ _,hcap,hsz,hE,hone,?_⟩⟩
    cases hq:Γ w.heap.size with
    | none=>rfl
    | some cs'=>exact absurd (hi.lt hq) (Nat.lt_irrefl _)
  · refine hst.trans ?_
    have:=Stp.alloc (mem:=mem1) hid (.cells arr E) (some (.slice (some ⟨w.heap.size,0,none⟩) xs.length cap)) (.row z E xs)
    exact ⟨this.os,this.tape,this.output,this.size,this.keep,this.own⟩
theorem leaves_same {Γ:Gh}{ρ:Env}{w w':World}{a:Act}{mem1:Mem}(hi:Inv Γ ρ nx mem1 w)(hst:Stp ρ mem w ρ mem1 w){b:Nat}(hown:Owned ρ mem b)(hno:¬ Owned ρ mem1 b)(hΓ:Γ b=none){z E cap:Nat}{xs:List SV}{arr:Array Value}
    (hrun:(execOp a.eval o).run P w = .ok (.value (.slice (some ⟨b,0,none⟩) xs.length cap)) w') (hos:w'.os=w.os) (ht:w'.tape=w.tape) (hou:w'.output=w.output) (hs:w'.heap.size=w.heap.size) (hother:∀ k,k≠b->w'.heap[k]? = w.heap[k]?)
    (hb:w'.heap[b]? = some (.cells arr E (0,0))) (hcap:xs.length<=cap) (hsz:arr.size=cap * z) (hE:DenE Γ z xs arr.toList) (hone:∀ c∈arr.toList,c.oneCell'=true) :
    Leaves P o nx mem Γ ρ w a (.own nx) ((nx,.row z E xs) :: mem1) (nx + 1):=by
  refine ⟨.slice (some ⟨b,0,none⟩) xs.length cap,_,Γ,ρ.add nx (some b) (some (.slice (some ⟨b,0,none⟩) xs.length cap)),w',hrun,.inl rfl,?_,by simp [SV.bd],⟨?_,?_,?_⟩,Env.add_same _ _ _ _,Nat.le_succ _,?_,Gh.le_refl _,fun _ hb=>.inl hb⟩
  · simp only [Den]; exact ⟨Env.add_val _ _ _ _,rfl⟩
  · intro c cs hc
    obtain ⟨E',fz,e⟩:=hi.pub c cs hc
    exact ⟨E',fz,by rw [hother c (fun e=>by subst e; rw [hΓ] at hc; cases hc),e]⟩
  · intro r B hB
    rw [fnd_cons] at hB
    split at hB
    · rename_i e; subst e; cases hB
      exact ⟨⟨_,Env.add_val _ _ _ _,.inr ⟨b,arr,cap,Env.add_blk _ _ _ _,rfl,hb,hcap,hsz,hE,hone,hΓ⟩⟩,Nat.lt_succ_self _,rfl⟩
    · obtain ⟨h1,h2,h3⟩:=hi.priv r B hB
      exact ⟨h1.move (Gh.le_refl _) (Env.add_same _ _ _ _) h2 h3 (fun c hc=>⟨hother c (fun e=>hno ⟨r,B,hB,e ▸ hc⟩),id⟩),Nat.lt_succ_of_lt h2,B.bd_mono (Nat.le_succ _) h3⟩
  · intro r r' c B B' hB hB' hc hc'
    rw [fnd_cons] at hB hB'
    split at hB <;> split at hB'
    · omega
    · rename_i e e'
      subst e
      rw [(Env.add_same ρ nx _ _ r' (hi.priv r' B' hB').2.1).1] at hc'
      rw [Env.add_blk] at hc; cases hc
      exact absurd ⟨r',B',hB',hc'⟩ hno
    · rename_i e e'
      subst e'
      rw [(Env.add_same ρ nx _ _ r (hi.priv r B hB).2.1).1] at hc
      rw [Env.add_blk] at hc'; cases hc'
      exact absurd ⟨r,B,hB,hc⟩ hno
    · rw [(Env.add_same ρ nx _ _ r (hi.priv r B hB).2.1).1] at hc
      rw [(Env.add_same ρ nx _ _ r' (hi.priv r' B' hB').2.1).1] at hc'
      exact hi.inj r r' c B B' hB hB' hc hc'
  · refine ⟨hos,ht,hou,om,fun c _ hc=>hother c (fun e=>hc (e ▸ hown)),?_⟩
    rintro c ⟨r,B,hB,hc⟩
    rw [fnd_cons] at hB
    split at hB
    · rename_i e; subst e
      rw [Env.add_blk] at hc; cases hc
      exact .inl hown
    · rw [(Env.add_same ρ nx _ _ r (hi.priv r B hB).2.1).1] at hc
      exact hst.own c ⟨r,B,hB,hc⟩
theorem leaves_nil {Γ:Gh}{ρ:Env}{w:World}{a:Act}{mem1:Mem}(hi:Inv Γ ρ nx mem1 w)(hst:Stp ρ mem w ρ mem1 w){z E:Nat}(hrun:(execOp a.eval o).run P w = .ok (.value (.slice none 0 0)) w) :
    Leaves P o nx mem Γ ρ w a (.own nx) ((nx,.row z E []) :: mem1) (nx + 1):=by
  refine ⟨.slice none 0 0,_,Γ,ρ.add nx none (some (.slice none 0 0)),w,hrun,.inl rfl,?_,by simp [SV.bd],⟨hi.pub,?_,?_⟩,Env.add_same _ _ _ _,Nat.le_succ _,?_,Gh.le_refl _,fun _ hb=>.inl hb⟩
  · simp only [Den]; exact ⟨Env.add_val _ _ _ _,rfl⟩
  · intro r B hB
    rw [fnd_cons] at hB
    split at hB
    · rename_i e; subst e; cases hB
      exact ⟨⟨_,Env.add_val _ _ _ _,.inl ⟨rfl,rfl,Env.add_blk _ _ _ _⟩⟩,Nat.lt_succ_self _,rfl⟩
    · obtain ⟨h1,h2,h3⟩:=hi.priv r B hB
      exact ⟨h1.move (Gh.le_refl _) (Env.add_same _ _ _ _) h2 h3 (fun c hc=>⟨rfl,id⟩),Nat.lt_succ_of_lt h2,B.bd_mono (Nat.le_succ _) h3⟩
  · intro r r' c B B' hB hB' hc hc'
    rw [fnd_cons] at hB hB'
    split at hB <;> split at hB'
    · omega
    · rename_i e e'; subst e; rw [Env.add_blk] at hc; cases hc
    · rename_i e e'; subst e'; rw [Env.add_blk] at hc'; cases hc'
    · rw [(Env.add_same ρ nx _ _ r (hi.priv r B hB).2.1).1] at hc
      rw [(Env.add_same ρ nx _ _ r' (hi.priv r' B' hB').2.1).1] at hc'
      exact hi.inj r r' c B B' hB hB' hc hc'
  · refine hst.trans ⟨rfl,rfl,rfl,Nat.le_refl _,fun _ _ _=>rfl,?_⟩
    rintro c ⟨r,B,hB,hc⟩
    rw [fnd_cons] at hB
    split at hB
    · rename_i e; subst e; rw [Env.add_blk] at hc; cases hc
    · rw [(Env.add_same ρ nx _ _ r (hi.priv r B hB).2.1).1] at hc
      exact .inl ⟨r,B,hB,hc⟩
theorem ok_append (hT:TabOk P T){t t2:Nat}{x y:Operand}(ho:o.op = .call { callee:=.builtin .append,args:=#[x,y],argTypes:=#[t,t2] }){sv:SV}{mem':Mem}{nx':Nat}{k:Prop}(h:xappend T fr mem nx t t2 x y=some (sv,mem',nx',k))(hk:k):OpOk P N fr mem nx o sv mem' nx':=by
  unfold xappend at h
  split at h
  · rename_i ti ti2 hti hti2
    split at h
    · rename_i e e2 hd hd2
      have hdesc:=(hT t ti hti).desc
      rw [hd] at hdesc; simp only [DescOk] at hdesc
      split at h
      · rename_i ei hei
        split at h
        · rename_i xs r ex ys r2 k' hz1 honto hsrc
          split at h
          · rename_i hne
            simp only [Option.some.injEq,Prod.mk.injEq] at h
            obtain ⟨rfl,rfl,rfl,rfl⟩:=h
            obtain ⟨hk1,hk2,hk3,hk4⟩:=hk
            have hz1:1<=ei.cells:=Nat.le_of_ble_eq_true hz1
            intro Γ ρ w a hi hf
            show Leaves P o nx mem Γ ρ w a _ _ _
            obtain ⟨news,hs,hE,hnl,hone⟩:=srcOf_sound hT hz1 hti2 hd2 hsrc hk1 hi hf
            obtain ⟨inf,hinf,hsz,hby,hie⟩:=(hT e ei hei).typeInfo
            obtain ⟨zv,hzv,hzc⟩:=(hT e ei hei).zeroValue
            obtain ⟨zd,zo,_,_⟩:=consts_den (Γ:=Γ) (ρ:=Env.nil) (n:=0) hzc
            have hzs:zv.cells.size=ei.cells:=by
              have h1:=zd.length
              have h2:=(hT e ei hei).zlen
              simp at h1; omega
            have hzero:inf.zero=some zv:=by
              have h1:=hzv w
              have h2:=hinf w
              simp only [zeroValue,Sem.run_bind,h2,Result.andThen_ok] at h1
              cases hq:inf.zero with
              | none=>simp [hq] at h1
              | some u=>simp [hq] at h1; rw [h1]
            have hsz':inf.size=ei.cells:=hsz
            have hs':Src P inf.size t2 (a.eval y) ys.length news w:=by rw [hsz']; exact hs
            have hexec:∀ (v u:Value) (w':World),a.eval x=u->(Builtin.append_ #[t,t2] o.type #[u,a.eval y]).run P w = .ok v w'->(execOp a.eval o).run P w = .ok (.value v) w':=by
              intro v u w' hu hr
              simp only [execOp,ho,resolve,invoke,builtin,Sem.run_bind,Sem.run_pure,Result.andThen_ok]
              have hx2:(#[x,y].map a.eval) = #[u,a.eval y]:=by simp [hu]
              rw [hx2,hr]
              rfl
            have hnlen:(xs++ys).length=xs.length + ys.length:=by simp
            have grow:∀ (base:Option Addr) (cap:Nat) (olds:List Value),a.eval x = .slice base xs.length cap->(Builtin.firstCells inf.size xs.length (.slice base xs.length cap)).run P w.drew = .ok olds.toArray w.drew ->
                DenE Γ ei.cells xs olds->olds.length=xs.length * ei.cells->(∀ c∈olds,c.oneCell'=true)->cap<xs.length + ys.length ->
                ∀ mem1,Inv Γ ρ nx mem1 w->Stp ρ mem w ρ mem1 w->Leaves P o nx mem Γ ρ w a (.own nx) ((nx,.row ei.cells e (xs++ys)) :: mem1) (nx + 1):=by
              intro base cap olds hx hold hEo hlo hoo hcap mem1 hi1 hst1
              have hrun:=run_append_grow_src w t t2 o.type e inf zv hdesc hie hzero base xs.length cap olds hold (a.eval y) ys.length news hs' hcap om (growslice_fits hcap (by rw [hby]; exact hk3))
              generalize hcapv:grownCap w (xs.length + ys.length) cap e=c1 at hrun
              have hge:xs.length + ys.length<=c1:=by rw [<- hcapv]; exact grownCap_ge _ _ _ _
              have harr:((olds++news).toArray++Builtin.zeroCells zv.cells (c1 - (xs.length + ys.length))).toList=olds++(news++(Builtin.zeroCells zv.cells (c1 - (xs.length + ys.length))).toList):=by simp
              refine leaves_new (cap:=c1) hi1 hst1 (hexec _ _ _ hx (by rw [hnlen]; exact hrun)) om ?_ ?_ ?_
              · simp [Builtin.zeroCells,hlo,hnl,hzs]
                have:(c1 - (xs.length + ys.length)) * ei.cells + (xs.length + ys.length) * ei.cells=c1 * ei.cells:=by
                  rw [<- Nat.add_mul]; congr 1; omega
                rw [Nat.add_mul] at this; omega
              · rw [harr]
                refine hEo.append hlo ?_
                have h2:=hE.append hnl (ys:=[]) (ds:=(Builtin.zeroCells zv.cells (c1 - (xs.length + ys.length))).toList) (by simp [DenE])
                simpa using h2
              · intro c hc
                rw [harr] at hc
                simp only [List.mem_append] at hc
                rcases hc with hc | hc | hc
                · exact hoo c hc
                · exact hone c hc
                · exact zeroCells_one zo _ c hc
            unfold ontoOf at honto
            split at honto
            · rename_i hx
              simp only [Option.some.injEq,Prod.mk.injEq] at honto
              obtain ⟨rfl,rfl,rfl⟩:=honto
              have g:=(evo_den hf x).1
              rw [hx] at g; simp only [Den] at g
              by_cases h0:ys.length=0
              · have:ys=[]:=List.eq_nil_of_length_eq_zero h0
                subst this
                refine leaves_nil hi (Stp.refl _ _ _) (hexec _ _ _ g ?_)
                have hcl:=hs'.cells
                simp only [List.length_nil] at hcl
                rcases hs.kind with ⟨e',hk'⟩ | hk' <;> simp [Builtin.append_,run_underlying hdesc,run_underlying hk',sizeOf,typeInfo,hie,hs.len,hcl]
              · exact grow none 0 [] g (run_firstCells_none w.drew _ _ _ _) (by simp [DenE]) (by simp) (by simp) (by simp; omega) mem hi (Stp.refl _ _ _)
            · rename_i z' xs' hx
              split at honto
              · rename_i hz
                have hz:z'=ei.cells:=Nat.eq_of_beq_eq_true hz
                subst hz
                simp only [Option.some.injEq,Prod.mk.injEq] at honto
                obtain ⟨rfl,rfl,rfl⟩:=honto
                obtain ⟨hy1,hxo⟩:=hk2 rfl
                have g:=(evo_den hf x).1
                rw [hx] at g; simp only [Den] at g
                rcases g with ⟨ad,g1,g2⟩ | ⟨b,off,cap,cs,g1,g2,gx,g3,g4,g5⟩
                · subst g2
                  cases ad with
                  | none=>exact grow none 0 [] g1 (run_firstCells_none w.drew _ _ _ _) (by simp [DenE]) (by simp) (by simp) (by simp; omega) mem hi (Stp.refl _ _ _)
                  | some ad=>exact grow (some ad) 0 [] g1 (run_firstCells_some w.drew _ _ _ _ _ _ (by simp) (fun j u hj=>by simp at hj)) (by simp [DenE]) (by simp) (by simp) (by simp; omega) mem hi (Stp.refl _ _ _)
                · have hcapx:=gx trivial
                  obtain ⟨E,fz,hb⟩:=hi.pub b cs g3
                  have hlen:xs'.length * ei.cells<=(cs.drop off).length:=g5.len
                  refine grow (some ⟨b,off,none⟩) cap ((cs.drop off).take (xs'.length * ei.cells)) g1 ?_ g5.take_len (by simp at hlen ⊢; omega) (g5.one hxo) om mem hi (Stp.refl _ _ _)
                  refine run_firstCells_some w.drew _ _ _ _ _ _ (by rw [hsz']; simp at hlen ⊢; omega) (fun j u hj=>?_)
                  rw [add_addr,World.cell?_drew,cell_of_row w b (off + j) cs.toArray E fz hb]
                  have hjl:j<xs'.length * ei.cells:=by
                    have:=(List.getElem?_eq_some_iff.1 hj).1
                    simp at this; omega
                  rw [List.getElem?_take_of_lt hjl,List.getElem?_drop] at hj
                  simpa using hj
              · cases honto
            · rename_i rr hx
              split at honto
              · rename_i z' E xs' hm
                split at honto
                · rename_i hz hEe
                  have hz:z'=ei.cells:=Nat.eq_of_beq_eq_true hz
                  have hEe:E=e:=Nat.eq_of_beq_eq_true hEe
                  subst hz hEe
                  simp only [Option.some.injEq,Prod.mk.injEq] at honto
                  obtain ⟨rfl,rfl,rfl⟩:=honto
                  have g:=(evo_den hf x).1
                  rw [hx] at g; simp only [Den] at g
                  obtain ⟨⟨v,hv,q⟩,hlt,_⟩:=hi.priv rr _ hm
                  rw [g.1] at hv; cases hv
                  have hid:=hi.del rr
                  have hsd:=Stp.del (ρ:=ρ) (mem:=mem) (w:=w) rr
                  rcases q with ⟨q1,q2,q3⟩ | ⟨b,arr,cap,q1,q2,q3,q4,q5,q6,q7,q8⟩
                  · subst q2
                    by_cases h0:ys.length=0
                    · have:ys=[]:=List.eq_nil_of_length_eq_zero h0
                      subst this
                      refine leaves_nil hid hsd (hexec _ _ _ q1 ?_)
                      have hcl:=hs'.cells
                      simp only [List.length_nil] at hcl
                      rcases hs.kind with ⟨e',hk'⟩ | hk' <;> simp [Builtin.append_,run_underlying hdesc,run_underlying hk',sizeOf,typeInfo,hie,hs.len,hcl]
                    · exact grow none 0 [] q1 (run_firstCells_none w.drew _ _ _ _) (by simp [DenE]) (by simp) (by simp) (by simp; omega) _ hid hsd
                  · have hcapz:xs'.length * ei.cells<=arr.size:=by rw [q5]; exact Nat.mul_le_mul_right _ q4
                    by_cases hroom:xs'.length + ys.length<=cap
                    · have hfit:xs'.length * ei.cells + news.length<=arr.size:=by
                        rw [hnl,q5,<- Nat.add_mul]; exact Nat.mul_le_mul_right _ hroom
                      have hst:=run_storeCells_at (P:=P) b (xs'.length * ei.cells) E news 0 arr w q3 (by simpa using hfit) hone
                      simp only [Nat.add_zero] at hst
                      have hrun:(Builtin.append_ #[t,t2] o.type #[.slice (some ⟨b,0,none⟩) xs'.length cap,a.eval y]).run P w = .ok (.slice (some ⟨b,0,none⟩) (xs'.length + ys.length) cap) (w.setRow b (arr.toList.take (xs'.length * ei.cells)++news++arr.toList.drop (xs'.length * ei.cells + news.length)).toArray):=by
                        have hcl:=hs.cells
                        rw [List.append_assoc] at hst ⊢
                        rcases hs.kind with ⟨e',hk'⟩ | hk' <;> simp [Builtin.append_,run_underlying hdesc,run_underlying hk',sizeOf,typeInfo,hie,hs.len,hroom,hcl,hsz',add_addr,hst]
                      refine leaves_same (cap:=cap) (w':=w.setRow b (arr.toList.take (xs'.length * ei.cells)++news++arr.toList.drop (xs'.length * ei.cells + news.length)).toArray) (arr:=(arr.toList.take (xs'.length * ei.cells)++news++arr.toList.drop (xs'.length * ei.cells + news.length)).toArray) hid hsd ⟨rr,_,hm,q1⟩ ?_ q8 (hexec _ _ _ q2 (by rw [hnlen]; exact hrun)) rfl rfl rfl (by simp) (fun k hk=>setRow_other w b k _ hk) (setRow_heap w b arr _ _ _ q3) om ?_ ?_ ?_
                      · rintro ⟨r',B,hB,hb⟩
                        rw [fnd_del] at hB
                        split at hB
                        · cases hB
                        · rename_i hne'
                          exact hne' (hi.inj r' rr b B _ hB hm hb q1)
                      · simp [hnl]
                        rw [hnl] at hfit; omega
                      · simp only []
                        rw [List.append_assoc]
                        refine q6.take_len.append (by simp; omega) ?_
                        have h2:=hE.append hnl (ys:=[]) (ds:=arr.toList.drop (xs'.length * ei.cells + news.length)) (by simp [DenE])
                        simpa using h2
                      · intro c hc
                        simp only [List.mem_append] at hc
                        rcases hc with (hc | hc) | hc
                        · exact q7 c (List.mem_of_mem_take hc)
                        · exact hone c hc
                        · exact q7 c (List.mem_of_mem_drop hc)
                    · refine grow (some ⟨b,0,none⟩) cap (arr.toList.take (xs'.length * ei.cells)) q2 ?_ q6.take_len (by simp; omega) (fun c hc=>q7 c (List.mem_of_mem_take hc)) om _ hid hsd
                      refine run_firstCells_some w.drew _ _ _ _ _ _ (by rw [hsz']; simp; omega) (fun j u hj=>?_)
                      rw [add_addr,World.cell?_drew,cell_of_row w b (0 + j) arr E _ q3]
                      have hjl:j<xs'.length * ei.cells:=by
                        have:=(List.getElem?_eq_some_iff.1 hj).1
                        simp at this; omega
                      rw [List.getElem?_take_of_lt hjl] at hj
                      simpa using hj
                · cases honto
              · cases honto
            · cases honto
          · cases h
        · cases h
      · cases h
    · cases h
  · cases h
end
theorem OpOk.share2 {P:Program}{N:Nat}{fr:Fr}{mem mem2:Mem}{nx:Nat}{o:Oper}{z E:Nat}{xs:List SV}(hsub:∀ q B,fnd mem2 q=some B->fnd mem q=some B)(h:OpOk P N fr mem nx o (.own nx) ((nx,.row z E xs) :: mem2) (nx + 1)):OpOk P N fr mem nx o (.sl false z xs) mem2 nx:=by
  intro Γ ρ w a hi hf
  obtain ⟨v,r,Γ',ρ',w',h1,h2,hden,_,hinv,hsame,_,hstp,hle,hnew⟩:=h Γ ρ w a hi hf
  have hhead:fnd ((nx,Blk.row z E xs) :: mem2) nx=some (.row z E xs):=by simp [fnd_cons]
  have hback:Env.same nx ρ' ρ:=fun q hq=>⟨(hsame q hq).1.symm,(hsame q hq).2.symm⟩
  have hold:∀ q B,fnd mem2 q=some B->q≠nx/\fnd ((nx,Blk.row z E xs) :: mem2) q=some B:=fun q B hB=>by
    have hlt:=(hi.priv q B (hsub q B hB)).2.1
    have hne:nx≠q:=om
    exact ⟨om,by simp [fnd_cons,hne,hB]⟩
  have hinj:∀ r r' b B B',fnd mem2 r=some B->fnd mem2 r'=some B'->ρ.blk r=some b->ρ.blk r'=some b->r=r':=fun r r' b B B' g1 g2=>hi.inj r r' b B B' (hsub r B g1) (hsub r' B' g2)
  have hstp':Stp ρ mem w ρ mem2 w':=⟨hstp.os,hstp.tape,hstp.output,hstp.size,hstp.keep,fun b ⟨r,B,g1,g2⟩=>.inl ⟨r,B,hsub r B g1,g2⟩⟩
  simp only [Den] at hden
  obtain ⟨v',hv',hcase⟩:=(hinv.priv nx _ hhead).1
  rw [hden.1] at hv'
  cases hv'
  rcases hcase with ⟨rfl,rfl,_⟩ | ⟨b,arr,cap,hb,rfl,hheap,hcap,hsz,hE,_,hnone⟩
  · refine ⟨_,r,Γ',ρ,w',h1,h2,by simp [Den],rfl,⟨hinv.pub,fun q B hB=>?_,hinj⟩,Env.same_refl _ _,Nat.le_refl _,hstp',hle,hnew⟩
    obtain ⟨_,g2⟩:=hold q B hB
    obtain ⟨_,g4,g5⟩:=hi.priv q B (hsub q B hB)
    exact ⟨(hinv.priv q B g2).1.move (Gh.le_refl _) hback g4 g5 (fun _ _=>⟨rfl,id⟩),g4,g5⟩
  · have hle2:Gh.le Γ' ⟨fun c=>if c=b then some arr.toList else Γ' c,Γ'.lo⟩:=⟨fun c cs hc=>by
      by_cases e:c=b
      · subst e; rw [hnone] at hc; cases hc
      · simp [e,hc],rfl⟩
    refine ⟨_,r,⟨fun c=>if c=b then some arr.toList else Γ' c,Γ'.lo⟩,ρ,w',h1,h2,?_,rfl,⟨fun c cs hc=>?_,fun q B hB=>?_,hinj⟩,Env.same_refl _ _,Nat.le_refl _,hstp',Gh.le_trans hle hle2,fun c hc=>?_⟩
    · simp only [Den]
      refine .inr ⟨b,0,cap,arr.toList,rfl,hcap,by simp,by simp,by simp [hsz],?_⟩
      simpa using DenE.ext hle2 _ _ _ hE
    · by_cases e:c=b
      · subst e
        simp only [if_true,Option.some.injEq] at hc
        subst hc
        exact ⟨E,(0,0),by simpa using hheap⟩
      · simp only [e,if_false] at hc
        exact hinv.pub c cs hc
    · obtain ⟨g1,g2⟩:=hold q B hB
      obtain ⟨_,g4,g5⟩:=hi.priv q B (hsub q B hB)
      refine ⟨(hinv.priv q B g2).1.move hle2 hback g4 g5 (fun c hc=>⟨rfl,fun hn=>?_⟩),g4,g5⟩
      have hne:c≠b:=fun e=>by
        subst e
        exact g1 (hinv.inj q nx c B _ g2 hhead hc hb)
      simp [hne,hn]
    · by_cases e:c=b
      · subst e
        rcases hstp.own c ⟨nx,_,hhead,hb⟩ with h | h
        · exact .inr (.inl h)
        · exact .inr (.inr h)
      · simp only [e,if_false] at hc
        exact hnew c hc
theorem OpOk.share {P:Program}{N:Nat}{fr:Fr}{mem:Mem}{nx:Nat}{o:Oper}{z E:Nat}{xs:List SV}(h:OpOk P N fr mem nx o (.own nx) ((nx,.row z E xs) :: mem) (nx + 1)):OpOk P N fr mem nx o (.sl false z xs) mem nx:=h.share2 (fun _ _ h=>h)
def xappsh (T:Tab)(fr:Fr)(mem:Mem)(nx:Nat)(t t2:Nat)(x y:Operand):R:=match xappend T fr mem nx t t2 x y with
  | some (.own _,(_,.row z _ xs) :: mem2,_,k)=>some (.sl false z xs,mem2,nx,k)
  | _=>none
theorem append_form {T:Tab}{fr:Fr}{mem:Mem}{nx t t2:Nat}{x y:Operand}{sv:SV}{mem':Mem}{nx':Nat}{k:Prop}(h:xappend T fr mem nx t t2 x y=some (sv,mem',nx',k)) :
    ∃ z E xs mem2,sv = .own nx/\mem'=(nx,.row z E xs) :: mem2/\nx'=nx + 1/\∀ r C,fnd mem2 r=some C->fnd mem r=some C:=by
  unfold xappend at h
  repeat' split at h
  all_goals first
    | (simp only [Option.some.injEq,Prod.mk.injEq] at h
       obtain ⟨rfl,rfl,rfl,_⟩:=h
       refine ⟨_,_,_,_,rfl,rfl,rfl,fun r C hC=>?_⟩
       first
         | (rw [fnd_del] at hC; split at hC <;> first | (cases hC; done) | exact hC)
         | exact hC)
    | (cases h; done)
theorem ok_appsh {P:Program}{T:Tab}(hT:TabOk P T){N:Nat}{fr:Fr}{mem:Mem}{nx:Nat}{o:Oper}{t t2:Nat}{x y:Operand}(ho:o.op = .call ⟨.builtin .append,⟨[x,y]⟩,⟨[t,t2]⟩⟩){sv:SV}{mem':Mem}{nx':Nat}{k:Prop}(h:xappsh T fr mem nx t t2 x y=some (sv,mem',nx',k))(hk:k):OpOk P N fr mem nx o sv mem' nx':=by
  unfold xappsh at h
  split at h
  · rename_i hb
    obtain ⟨z,E,xs,mem2,e1,e2,e3,e4⟩:=append_form hb
    cases e1; cases e2; subst e3
    simp only [Option.some.injEq,Prod.mk.injEq] at h
    obtain ⟨rfl,rfl,rfl,rfl⟩:=h
    exact (ok_append hT ho hb hk).share2 e4
  · cases h
end Go.Proofs.YtmmfpkkamgapkaaGreat.X
