/- Maps of one's own,keyed by numbers: made,looked up,stored into. -/
import Derived.Test.YtmmfpkkamgapkaaGreatXl
import Derived.Laws.CopyRow
import Derived.Laws.Cover3
import Derived.MapKept
namespace Go.Proofs.YtmmfpkkamgapkaaGreat.X
open Go Go.RowKit
section
variable {P:Program} {T:Tab} {N:Nat} {fr:Fr} {mem:Mem} {nx:Nat} {o:Oper}
theorem row_val {Γ:Gh}{ρ:Env}{w:World}(hi:Inv Γ ρ nx mem w){r z E:Nat}{xs:List SV}(hr:fnd mem r=some (.row z E xs))(hne:xs≠[]){v:Value}(hv:Den Γ ρ (.own r) v) :
  ∃ b arr cap,ρ.blk r=some b/\v = .slice (some ⟨b,0,none⟩) xs.length cap/\w.heap[b]? = some (.cells arr E (0,0))/\xs.length<=cap/\arr.size=cap * z/\DenE Γ z xs arr.toList/\(∀ c∈arr.toList,c.oneCell'=true)/\Γ b=none:=by
 simp only [Den] at hv
 obtain ⟨v',h1,h2⟩:=(hi.priv r _ hr).1
 rw [hv.1] at h1
 cases h1
 rcases h2 with ⟨_,h,_⟩ | ⟨b,arr,cap,h⟩
 ·exact absurd h hne
 ·exact ⟨b,arr,cap,h⟩
def xosub (T:Tab)(fr:Fr)(mem:Mem)(nx:Nat)(t:Nat)(x:Operand)(lo:Option Operand):R :=
 match fnd T t with
 | some ti=>match ti.d with
  | .slice e=>match fnd T e,bnd fr lo,evo fr x with
   | some ei,some l,.own r=>match fnd mem r with
    | some (.row z _ xs)=>match Nat.beq z ei.cells with
     | true=>some (.osub r z (l.getD 0).toNat (xs.length - (l.getD 0).toNat),mem,nx,0<=l.getD 0/\l.getD 0<=(xs.length:Int)/\xs≠[])
     | false=>none
    | _=>none
   | _,_,_=>none
  | _=>none
 | none=>none
theorem ok_osub (hT:TabOk P T){t:Nat}{x:Operand}{lo:Option Operand}(ho:o.op = .slice t x lo none none){sv:SV}{mem':Mem}{nx':Nat}{k:Prop}(h:xosub T fr mem nx t x lo=some (sv,mem',nx',k))(hk:k):OpOk P N fr mem nx o sv mem' nx':=by
 unfold xosub at h
 split at h
 ·rename_i ti hti
  have hdesc:=(hT t ti hti).desc
  split at h
  ·rename_i e hd
   rw [hd] at hdesc; simp only [DescOk] at hdesc
   split at h
   ·rename_i ei l r hei hbl hx
    split at h
    ·rename_i z E xs hr
     split at h
     ·rename_i hz
      have hz:z=ei.cells:=Nat.eq_of_beq_eq_true hz
      have hse:=(hT e ei hei).sizeOf
      have hund:∀ w,(underlying t).run P w = .ok (.slice e) w:=run_underlying hdesc
      simp only [Option.some.injEq,Prod.mk.injEq] at h
      obtain ⟨rfl,rfl,rfl,rfl⟩:=h
      obtain ⟨k1,k2,k3⟩:=hk
      refine OpOk.pure fun Γ ρ w a hi hf=>?_
      obtain ⟨g,gb⟩:=evo_den hf x
      rw [hx] at g gb
      obtain ⟨b,arr,cap,h1,hv,h2,h3,h4,h5,h6,h7⟩:=row_val hi hr k3 g
      refine ⟨.slice (some ⟨b,if cap=(l.getD 0).toNat then 0 else (l.getD 0).toNat * z,none⟩) (xs.length - (l.getD 0).toNat) (cap - (l.getD 0).toNat),?_,?_,by simpa [SV.bd] using gb⟩
      ·rcases bnd_den hf hbl with ⟨rfl,rfl⟩ | ⟨lx',lk',li'',rfl,rfl,lev⟩
       ·simp [execOp,ho,hv,Instr.sliceAt,Instr.slice,hund,Instr.sliceBounds,hse]
        exact fun _=>by simp [Addr.add]
       ·have hm3:=run_bound (P:=P) (k:=lk') (i:=li'') (y:=xs.length) (c:=.sliceB) w (by simpa using k1) (by simpa using k2)
        simp only [Option.getD_some]
        by_cases hc:cap=li''.toNat
        ·simp [execOp,ho,hv,Instr.sliceAt,Instr.slice,hund,Instr.sliceBounds,lev,hm3,hse,hc]
        ·simp [execOp,ho,hv,Instr.sliceAt,Instr.slice,hund,Instr.sliceBounds,lev,hm3,hse,hz,hc,add_addr]
      ·simp only [Den]
       refine ⟨b,_,_,h1,fun hn=>?_,rfl⟩
       have:cap≠(l.getD 0).toNat:=om
       simp [this]
     ·cases h
    ·cases h
   ·cases h
  ·cases h
 ·cases h
def xpre (T:Tab)(fr:Fr)(mem:Mem)(nx:Nat)(t:Nat)(x hi:Operand):R :=
 match fnd T t with
 | some ti=>match ti.d with
  | .slice e=>match fnd T e,evo fr hi,evo fr x with
   | some ei,.int _ h,.own r=>match fnd mem r with
    | some (.row z E xs)=>match Nat.beq z ei.cells with
     | true=>some (.own nx,(nx,.row z E (xs.take h.toNat)) :: del mem r,nx + 1,0<=h/\h<=(xs.length:Int)/\xs≠[])
     | false=>none
    | _=>none
   | _,_,_=>none
  | _=>none
 | none=>none
theorem ok_pre (hT:TabOk P T){t:Nat}{x hx:Operand}(ho:o.op = .slice t x none (some hx) none){sv:SV}{mem':Mem}{nx':Nat}{k:Prop}(h:xpre T fr mem nx t x hx=some (sv,mem',nx',k))(hk:k):OpOk P N fr mem nx o sv mem' nx':=by
 unfold xpre at h
 split at h
 ·rename_i ti hti
  have hdesc:=(hT t ti hti).desc
  split at h
  ·rename_i e hd
   rw [hd] at hdesc; simp only [DescOk] at hdesc
   split at h
   ·rename_i ei kk hh r hei hbh hxx
    split at h
    ·rename_i z E xs hr
     split at h
     ·rename_i hz
      have hz:z=ei.cells:=Nat.eq_of_beq_eq_true hz
      have hse:=(hT e ei hei).sizeOf
      have hund:∀ w,(underlying t).run P w = .ok (.slice e) w:=run_underlying hdesc
      simp only [Option.some.injEq,Prod.mk.injEq] at h
      obtain ⟨rfl,rfl,rfl,rfl⟩:=h
      obtain ⟨k1,k2,k3⟩:=hk
      intro Γ ρ w a hi hf
      obtain ⟨g,gb⟩:=evo_den hf x
      rw [hxx] at g
      obtain ⟨b,arr,cap,h1,hv,h2,h3,h4,h5,h6,h7⟩:=row_val hi hr k3 g
      have hev:a.eval hx = .int kk hh:=by
       have:=(evo_den hf hx).1
       rw [hbh] at this; simpa only [Den] using this
      have hno:¬ Owned ρ (del mem r) b:=by
       rintro ⟨r',B,hB,hb'⟩
       rw [fnd_del] at hB
       split at hB
       ·cases hB
       ·rename_i hne; exact hne (hi.inj r' r b B _ hB hr hb' h1)
      have hlen:(xs.take hh.toNat).length=hh.toNat:=by simp; omega
      have hm1:=run_bound (P:=P) (k:=kk) (i:=hh) (y:=cap) (c:=.sliceAcap) w k1 om
      exact leaves_same (hi.del r) (Stp.del r) ⟨r,_,hr,h1⟩ hno h7 (cap:=cap) (arr:=arr) (E:=E) (z:=z)
       (by simp [execOp,ho,hv,Instr.sliceAt,Instr.slice,hund,Instr.sliceBounds,hev,hm1,hse,hlen]; exact fun _=>by simp [Addr.add]) rfl rfl rfl rfl (fun _ _=>rfl) h2 om h4 (h5.take _) h6
     ·cases h
    ·cases h
   ·cases h
  ·cases h
 ·cases h
def xcopy (T:Tab)(fr:Fr)(mem:Mem)(nx:Nat)(t1:Nat)(x y:Operand)(q:SV):R :=
 match fnd T t1,q with
 | some ti,.int _ res=>match ti.d with
  | .slice e=>match fnd T e,evo fr x,evo fr y with
   | some ei,.osub r 1 lo n,.sl _ 1 ys=>match fnd mem r,Nat.beq ei.cells 1 with
    | some (.row 1 E xs),true=>some (.int .i64 res,upd mem r (.row 1 E (xs.take lo++ys.take n++xs.drop (lo + (ys.take n).length))),nx,
      (((ys.take n).length:Nat):Int)=res/\lo + n=xs.length/\1<=n/\1<=ys.length/\∀ y∈ys,ElemOk y)
    | _,_=>none
   | _,_,_=>none
  | _=>none
 | _,_=>none
theorem DenE.splice {Γ:Gh}{xs ys:List SV}{cs ds:List Value}{lo:Nat}(h:DenE Γ 1 xs cs)(hl:lo + ys.length<=xs.length)(hc:xs.length<=cs.length)(h2:DenE Γ 1 ys ds)(hd:ds.length=ys.length) :
  DenE Γ 1 (xs.take lo++ys++xs.drop (lo + ys.length)) (cs.take lo++ds++cs.drop (lo + ds.length)):=by
 have h3:=(h.take lo).take_len
 have hlen:(xs.take lo).length * 1=lo:=by simp; omega
 rw [hlen] at h3
 have h4:=h3.append (by simp; omega) h2
 have h5:=h.drop (lo + ys.length)
 rw [Nat.mul_one] at h5
 rw [hd]
 exact h4.append (by simp; omega) h5
theorem ok_copy (hT:TabOk P T){t1 t2:Nat}{x y:Operand}(ho:o.op = .call { callee:=.builtin .copy,args:=#[x,y],argTypes:=#[t1,t2] }){q sv:SV}{mem':Mem}{nx':Nat}{k:Prop}(h:xcopy T fr mem nx t1 x y q=some (sv,mem',nx',k))(hk:k):OpOk P N fr mem nx o sv mem' nx':=by
 unfold xcopy at h
 split at h
 ·rename_i ti kk res hti
  have hdesc:=(hT t1 ti hti).desc
  split at h
  ·rename_i e hd
   rw [hd] at hdesc; simp only [DescOk] at hdesc
   split at h
   ·rename_i ei r lo n xb ys hei hx hy
    split at h
    ·rename_i E xs hr hz
     have hz:ei.cells=1:=Nat.eq_of_beq_eq_true hz
     simp only [Option.some.injEq,Prod.mk.injEq] at h
     obtain ⟨rfl,rfl,rfl,rfl⟩:=h
     obtain ⟨k1,k2,k3,k4,k5⟩:=hk
     intro Γ ρ w a hi hf
     have g:=(evo_den hf x).1
     rw [hx] at g; simp only [Den] at g
     obtain ⟨b,cap,off,g1,g2,g3⟩:=g
     have g2:=g2 om
     rw [Nat.mul_one] at g2
     rw [g2] at g3
     have gy:=(evo_den hf y).1
     rw [hy] at gy; simp only [Den] at gy
     rcases gy with ⟨_,_,rfl⟩ | ⟨sb,so,scap,cs,sv,s1,s2,s3,s4,s5⟩
     ·simp at k4
     obtain ⟨v',h1,h2⟩:=(hi.priv r _ hr).1
     rcases h2 with ⟨_,rfl,_⟩ | ⟨b',arr,cap',hb',_,hheap,hcap,hsz,hE,hone,hΓ⟩
     ·simp at k2; omega
     rw [g1] at hb'; cases hb'
     obtain ⟨sE,sfz,hs⟩:=hi.pub sb cs s3
     have hml:(ys.take n).length=Nat.min ys.length n:=by simp [Nat.min_comm]
     have hnews:((cs.drop so).take (ys.take n).length).length=(ys.take n).length:=by simp; omega
     have hsize:(P.info? e).map (·.size)=some 1:=by
      have hi2:=(hT e ei hei).info
      cases hq:P.info? e with
      | none=>rw [hq] at hi2; cases hi2
      | some i=>rw [hq] at hi2; simp at hi2; simp [hi2.1,hz]
     have hone2:∀ c∈(cs.drop so).take (ys.take n).length,c.oneCell'=true:=fun c hc=>by
      refine DenE.one (z:=1) s5 k5 c ?_
      rw [Nat.mul_one]
      have hle:(ys.take n).length<=ys.length:=by simp; omega
      exact List.mem_of_mem_take (i:=(ys.take n).length) (by rw [List.take_take,Nat.min_eq_left hle]; exact hc)
     have hE2:DenE Γ 1 (ys.take n) ((cs.drop so).take (ys.take n).length):=by
      have:=(s5.take n).take_len
      rwa [Nat.mul_one] at this
     have hrun:=run_copy_row (P:=P) w t1 t2 o.type e b lo n cap ⟨sb,so,none⟩ ys.length scap arr E ((cs.drop so).take (ys.take n).length) hdesc hsize hheap (by rw [hnews,hml]) (fun j v hj=>by
       have hj2:j<(ys.take n).length:=by have:=(List.getElem?_eq_some_iff.1 hj).1; omega
       rw [List.getElem?_take_of_lt hj2,List.getElem?_drop] at hj
       have hadd:Addr.add ⟨sb,so,none⟩ j=⟨sb,so + j,none⟩:=by unfold Addr.add; split <;> simp_all
       rw [hadd]
       simpa [World.cell?,hs] using hj) (by rw [hnews]; simp at hsz ⊢; omega) hone2
     rw [hnews] at hrun
     refine ⟨.int .i64 res,.value (.int .i64 res),Γ,ρ,w.setRow b (arr.toList.take lo++(cs.drop so).take (ys.take n).length++arr.toList.drop (lo + (ys.take n).length)).toArray,?_,.inl rfl,by simp only [Den],rfl,?_,Env.same_refl _ _,Nat.le_refl _,?_,Gh.le_refl _,fun _ hb=>.inl hb⟩
     ·simp only [execOp,ho,resolve]
      simp [invoke,builtin,g3,sv,hrun,goInt]
      simpa using k1
     ·refine hi.set hr g1 hΓ _ (fun k hk=>setRow_other w b k _ hk) ⟨v',h1,.inr ⟨b,_,cap',g1,by
       have hl:(xs.take lo++ys.take n++xs.drop (lo + (ys.take n).length)).length=xs.length:=by simp; omega
       rw [hl]; assumption,setRow_heap w b arr _ E _ hheap,?_,?_,?_,?_,hΓ⟩⟩ rfl
      ·simp; omega
      ·simp at hsz ⊢; omega
      ·have:=DenE.splice (lo:=lo) hE (ys:=ys.take n) (by simp; omega) (by simp at hsz ⊢; omega) hE2 hnews
       rw [hnews] at this
       simpa using this
      ·intro c hc
       simp only [List.mem_append] at hc
       rcases hc with (hc | hc) | hc
       ·exact hone c (List.mem_of_mem_take hc)
       ·exact hone2 c hc
       ·exact hone c (List.mem_of_mem_drop hc)
     ·exact Stp.set _ hr g1 rfl rfl rfl (by simp) (fun k hk=>setRow_other w b k _ hk)
    ·cases h
   ·cases h
  ·cases h
 ·cases h
def xnilcmp (T:Tab)(fr:Fr)(mem:Mem)(nx:Nat)(ne:Bool)(t:Nat)(x y:Operand):R :=
 match fnd T t with
 | some ti=>match ti.d,evo fr x,evo fr y with
  | .slice _,.sl _ _ xs,.nils=>some (.bool ne,mem,nx,xs≠[])
  | .slice _,.own r,.nils=>match fnd mem r with
   | some (.row _ _ xs)=>some (.bool ne,mem,nx,xs≠[])
   | _=>none
  | .slice _,.nils,.nils=>some (.bool (!ne),mem,nx,True)
  | _,_,_=>none
 | none=>none
theorem run_cmp_slice {t e:Nat}(h:P.underlying t=some (.slice e))(w:World)(a:Addr)(l c:Nat)(ne:Bool):(binOp (bif ne then .neq else .eql) t (.slice (some a) l c) (.slice none 0 0)).run P w = .ok (.bool ne) w:=by
 cases ne
 ·simp only [cond_false,binOp]
  simp [run_equal_slice_nil w t e (some a) l c h]
 ·simp only [cond_true,binOp]
  simp [run_equal_slice_nil w t e (some a) l c h]
theorem run_cmp_nil {t e:Nat}(h:P.underlying t=some (.slice e))(w:World)(ne:Bool):(binOp (bif ne then .neq else .eql) t (.slice none 0 0) (.slice none 0 0)).run P w = .ok (.bool (!ne)) w:=by
 cases ne
 ·simp only [cond_false,binOp]
  simp [run_equal_slice_nil w t e none 0 0 h]
 ·simp only [cond_true,binOp]
  simp [run_equal_slice_nil w t e none 0 0 h]
theorem ok_nilcmp (hT:TabOk P T){ne:Bool}{t yt:Nat}{x y:Operand}(ho:o.op = .binOp (bif ne then .neq else .eql) t x y yt){sv:SV}{mem':Mem}{nx':Nat}{k:Prop}(h:xnilcmp T fr mem nx ne t x y=some (sv,mem',nx',k))(hk:k):OpOk P N fr mem nx o sv mem' nx':=by
 unfold xnilcmp at h
 split at h
 ·rename_i ti hti
  have hdesc:=(hT t ti hti).desc
  split at h
  ·rename_i e z zz xs hd hx hy
   rw [hd] at hdesc; simp only [DescOk] at hdesc
   simp only [Option.some.injEq,Prod.mk.injEq] at h
   obtain ⟨rfl,rfl,rfl,rfl⟩:=h
   refine OpOk.pure fun Γ ρ w a hi hf=>?_
   have g:=(evo_den hf x).1
   have gy:=(evo_den hf y).1
   rw [hx] at g; rw [hy] at gy
   simp only [Den] at g gy
   rcases g with ⟨_,_,rfl⟩ | ⟨b,off,cap,cs,hv,_⟩
   ·exact absurd rfl hk
   refine ⟨.bool ne,?_,by simp only [Den],rfl⟩
   simp only [execOp,ho]
   rw [Sem.run_bind,hv,gy,Sem.run_bind,eqGuard_ok _ _ _ _ _ _ _ (by simp) (by simp),Result.andThen_ok,run_cmp_slice hdesc]
   rfl
  ·rename_i e r hd hx hy
   rw [hd] at hdesc; simp only [DescOk] at hdesc
   split at h
   ·rename_i z E xs hr
    simp only [Option.some.injEq,Prod.mk.injEq] at h
    obtain ⟨rfl,rfl,rfl,rfl⟩:=h
    refine OpOk.pure fun Γ ρ w a hi hf=>?_
    have g:=(evo_den hf x).1
    have gy:=(evo_den hf y).1
    rw [hx] at g; rw [hy] at gy
    simp only [Den] at gy
    obtain ⟨b,arr,cap,_,hv,_⟩:=row_val hi hr hk g
    refine ⟨.bool ne,?_,by simp only [Den],rfl⟩
    simp only [execOp,ho]
    rw [Sem.run_bind,hv,gy,Sem.run_bind,eqGuard_ok _ _ _ _ _ _ _ (by simp) (by simp),Result.andThen_ok,run_cmp_slice hdesc]
    rfl
   ·cases h
  ·rename_i e hd hx hy
   rw [hd] at hdesc; simp only [DescOk] at hdesc
   simp only [Option.some.injEq,Prod.mk.injEq] at h
   obtain ⟨rfl,rfl,rfl,rfl⟩:=h
   refine OpOk.pure fun Γ ρ w a hi hf=>?_
   have g:=(evo_den hf x).1
   have gy:=(evo_den hf y).1
   rw [hx] at g; rw [hy] at gy
   simp only [Den] at g gy
   refine ⟨.bool (!ne),?_,by simp only [Den],rfl⟩
   simp only [execOp,ho]
   rw [Sem.run_bind,g,gy,Sem.run_bind,eqGuard_ok _ _ _ _ _ _ _ (by simp) (by simp),Result.andThen_ok,run_cmp_nil hdesc]
   rfl
  ·cases h
 ·cases h
end
section
variable {P:Program} {T:Tab} {N:Nat} {fr:Fr} {mem:Mem} {nx:Nat} {o:Oper}
def xcells (T:Tab)(fr:Fr)(mem:Mem)(nx:Nat)(t len:Nat)(parts:Array (Nat×Operand)):R :=
 match fnd T t with
 | some ti=>match ti.d with
  | .slice e=>match fnd T e,dense 0 parts.toList with
   | some ei,some xs=>match Nat.beq xs.length len,(xs.map (evo fr)).all SV.single,Nat.ble len 1000,Nat.beq ei.cells 1,Nat.ble 1 len with
    | true,true,true,true,true=>some (.osub nx 1 0 len,(nx,.cells (xs.map (evo fr)) e) :: mem,nx + 1,True)
    | _,_,_,_,_=>none
   | _,_=>none
  | _=>none
 | none=>none
theorem dense_one {Γ:Gh}{ρ:Env} : ∀ {l:List SV} {vs:List Value},DenL Γ ρ l vs->l.all SV.single=true->∀ v∈vs,v.oneCell'=true
 | [],vs,h,_,v,hv=>by simp only [DenL] at h; subst h; cases hv
 | s :: l,vs,h,hs,v,hv=>by
  simp only [DenL] at h
  obtain ⟨u,r,rfl,h1,h2⟩:=h
  simp only [List.all_cons,Bool.and_eq_true] at hs
  rcases List.mem_cons.1 hv with rfl | hv
  ·exact h1.single hs.1
  ·exact dense_one h2 hs.2 v hv
theorem flat_one:∀ {vs:List Value},(∀ v∈vs,v.oneCell'=true)->vs.flatMap (fun v=>v.cells.toList)=vs
 | [],_=>rfl
 | v :: vs,h=>by
  rw [List.flatMap_cons,flat_one fun u hu=>h u (List.mem_cons_of_mem _ hu),cells_of_one (h v (by simp))]
  rfl
theorem ok_cells (hT:TabOk P T){t len:Nat}{parts:Array (Nat×Operand)}(ho:o.op = .buildSlice t len parts){sv:SV}{mem':Mem}{nx':Nat}{k:Prop}(h:xcells T fr mem nx t len parts=some (sv,mem',nx',k)):OpOk P N fr mem nx o sv mem' nx':=by
 unfold xcells at h
 split at h
 ·rename_i ti hti
  have hdesc:=(hT t ti hti).desc
  split at h
  ·rename_i e hd
   rw [hd] at hdesc; simp only [DescOk] at hdesc
   split at h
   ·rename_i ei xs hei hds
    split at h
    ·rename_i hlen hrow hsm hz1 hl1
     simp only [Option.some.injEq,Prod.mk.injEq] at h
     obtain ⟨rfl,rfl,rfl,rfl⟩:=h
     have hlen:xs.length=len:=Nat.eq_of_beq_eq_true hlen
     have hsm:len<=1000:=Nat.le_of_ble_eq_true hsm
     have hz1:ei.cells=1:=Nat.eq_of_beq_eq_true hz1
     have hl1:1<=len:=Nat.le_of_ble_eq_true hl1
     intro Γ ρ w a hi hf
     obtain ⟨hd1,hd2⟩:=mapDen hf xs
     have hone:=dense_one hd1 hrow
     obtain ⟨zv,hzv,_⟩:=(hT e ei hei).zeroValue
     have he:=dense_spec parts.toList 0 xs a hds
     let base:Array Value:=(Array.range (len * 1)).map (fun i=>zv.cells[i % zv.cells.size]!)
     have hbase:base.size=len:=by simp [base]
     obtain ⟨r,hr,hrl⟩:=fill_list 1 (xs.map a.eval) 0 base (fun v hv=>by rw [cells_of_one (hone v hv)]; rfl) (by rw [hbase]; simp [hlen])
     have hrl':r.toList=xs.map a.eval:=by
      rw [hrl,flat_one hone]
      simp [hlen,hbase,List.drop_of_length_le]
     have hrun:(execOp a.eval o).run P w = .ok (.value (.slice (some ⟨w.heap.size,0,none⟩) len len)) (w.alloc (.cells r e)):=by
      have hsm':¬ len * ei.cells>2 ^ 24:=by rw [hz1]; omega
      have hr':Instr.fill (fun i=>some (i * 1,1)) base (parts.toList.map fun x=>(x.1,a.eval x.2))=some r:=by rw [he]; exact hr
      simp only [execOp,ho,Instr.buildSlice,Sem.run_bind,run_underlying hdesc,Result.andThen_ok,(hT e ei hei).sizeOf,if_neg hsm',Sem.run_pure,Array.toList_map]
      have hpe:(List.map (fun x:Nat×Operand=>(x.1,a.eval x.2)) parts.toList)=List.map (fun (i,x)=>(i,a.eval x)) parts.toList:=rfl
      rw [hpe] at hr'
      have h0:¬ len * ei.cells=0:=by rw [hz1]; omega
      rw [if_neg h0]
      simp only [Sem.run_bind,hzv,Result.andThen_ok,Sem.run_pure]
      simp only [base] at hr'
      rw [<- hz1] at hr'
      rw [hr']
      simp [newRow]
     refine ⟨_,_,Γ,ρ.add nx (some w.heap.size) none,_,hrun,.inl rfl,?_,by simp [SV.bd],?_,Env.add_same _ _ _ _,Nat.le_succ _,Stp.alloc hi _ _ _,Gh.le_refl _,fun _ hb=>.inl hb⟩
     ·simp only [Den]; exact ⟨_,len,0,Env.add_blk _ _ _ _,fun _=>by simp,rfl⟩
     ·refine hi.alloc _ none (.cells (xs.map (evo fr)) e) ⟨w.heap.size,r,Env.add_blk _ _ _ _,by rw [heap_alloc_new],?_,by rw [hrl']; exact hone,?_⟩ (bdL_mono (Nat.le_succ _) _ hd2)
      ·rw [hrl']; exact DenL.ext (Gh.le_refl _) _ _ (Env.add_same _ _ _ _) hd2 hd1
      ·cases hq:Γ w.heap.size with
       | none=>rfl
       | some cs'=>exact absurd (hi.lt hq) (Nat.lt_irrefl _)
    ·cases h
   ·cases h
  ·cases h
 ·cases h
def xidxc (T:Tab)(fr:Fr)(mem:Mem)(nx:Nat)(t:Nat)(x i:Operand):R :=
 match fnd T t,evo fr i with
 | some ti,.int _ n=>match ti.d with
  | .slice e=>match fnd T e,evo fr x with
   | some ei,.osub r 1 lo cnt=>match Nat.beq ei.cells 1 with
    | true=>some (.loc r (lo + n.toNat),mem,nx,0<=n/\n<(cnt:Int))
    | false=>none
   | _,_=>none
  | _=>none
 | _,_=>none
theorem ok_idxc (hT:TabOk P T){t:Nat}{x i:Operand}(ho:o.op = .indexAddr t x i){sv:SV}{mem':Mem}{nx':Nat}{k:Prop}(h:xidxc T fr mem nx t x i=some (sv,mem',nx',k))(hk:k):OpOk P N fr mem nx o sv mem' nx':=by
 unfold xidxc at h
 split at h
 ·rename_i ti ki n hti hi'
  have hdesc:=(hT t ti hti).desc
  split at h
  ·rename_i e hd
   rw [hd] at hdesc; simp only [DescOk] at hdesc
   split at h
   ·rename_i ei r lo cnt he hx
    split at h
    ·rename_i hz
     have hz:ei.cells=1:=Nat.eq_of_beq_eq_true hz
     simp only [Option.some.injEq,Prod.mk.injEq] at h
     obtain ⟨rfl,rfl,rfl,rfl⟩:=h
     obtain ⟨hk1,hk2⟩:=hk
     refine OpOk.pure fun Γ ρ w a hi hf=>?_
     obtain ⟨h1,h1'⟩:=evo_den hf x
     rw [hx] at h1 h1'; simp only [Den] at h1
     obtain ⟨b,cap,off,g1,g2,hv⟩:=h1
     have h2:=(evo_den hf i).1
     rw [hi'] at h2; simp only [Den] at h2
     have g3:=g2 om
     subst g3
     refine ⟨.pointer (some ⟨b,lo + n.toNat,none⟩),?_,?_,by simpa [SV.bd] using h1'⟩
     ·simp [execOp,ho,hv,h2,Instr.indexAt,asIntOf,run_underlying hdesc,hk1,hk2,(hT e ei he).sizeOf,add_addr,hz]
     ·simp only [Den]; exact ⟨b,g1,rfl⟩
    ·cases h
   ·cases h
  ·cases h
 ·cases h
def xlenc (T:Tab)(fr:Fr)(mem:Mem)(nx:Nat)(t:Nat)(x:Operand)(q:SV):R :=
 match fnd T t,q with
 | some ti,.int _ r=>match ti.d with
  | .slice _=>match evo fr x with
   | .osub _ _ _ n=>some (.int .i64 r,mem,nx,((n:Nat):Int)=r)
   | _=>none
  | _=>none
 | _,_=>none
theorem ok_lenc (hT:TabOk P T){t:Nat}{x:Operand}(ho:o.op = .call { callee:=.builtin .len,args:=#[x],argTypes:=#[t] }){q sv:SV}{mem':Mem}{nx':Nat}{k:Prop}(h:xlenc T fr mem nx t x q=some (sv,mem',nx',k))(hk:k):OpOk P N fr mem nx o sv mem' nx':=by
 unfold xlenc at h
 split at h
 ·rename_i ti k0 r hti
  have hdesc:=(hT t ti hti).desc
  split at h
  ·rename_i e hd
   rw [hd] at hdesc; simp only [DescOk] at hdesc
   split at h
   ·rename_i r' z lo n hx
    simp only [Option.some.injEq,Prod.mk.injEq] at h
    obtain ⟨rfl,rfl,rfl,rfl⟩:=h
    refine OpOk.pure fun Γ ρ w a hi hf=>⟨.int .i64 r,run_len w r ?_ ho,by simp only [Den],rfl⟩
    have h1:=(evo_den hf x).1
    rw [hx] at h1; simp only [Den] at h1
    obtain ⟨b,cap,off,g1,g2,hv⟩:=h1
    simp [Builtin.len_,run_underlying hdesc,hv,goInt,<- hk]
   ·cases h
  ·cases h
 ·cases h
end
section
variable {P:Program} {T:Tab} {N:Nat} {fr:Fr} {mem:Mem} {nx:Nat} {o:Oper}
def xclear (T:Tab)(fr:Fr)(mem:Mem)(nx:Nat)(t:Nat)(x:Operand):R :=
 match fnd T t with
 | some ti=>match ti.d with
  | .slice e=>match fnd T e,evo fr x with
   | some ei,.osub r 1 lo n=>match fnd mem r,ei.zero,Nat.beq ei.cells 1 with
    | some (.row 1 E xs),[z],true=>match z.bd 0 with
     | true=>some (.tup [],upd mem r (.row 1 E (xs.take lo++List.replicate n z++xs.drop (lo + n))),nx,lo + n=xs.length)
     | false=>none
    | _,_,_=>none
   | _,_=>none
  | _=>none
 | none=>none
theorem DenE.rep {Γ:Gh}{z:SV}{v:Value}(h:Den Γ Env.nil z v)(h1:v.oneCell'=true):∀ n,DenE Γ 1 (List.replicate n z) (List.replicate n v)
 | 0=>by simp [DenE]
 | n + 1=>by
  simp only [List.replicate_succ,DenE]
  refine ⟨⟨v,h,by rw [cells_of_one h1]; rfl,by rw [cells_of_one h1]; simp⟩,?_⟩
  simpa using DenE.rep h h1 n
theorem ok_clear (hT:TabOk P T){t:Nat}{x:Operand}(ho:o.op = .call { callee:=.builtin .clear,args:=#[x],argTypes:=#[t] }){sv:SV}{mem':Mem}{nx':Nat}{k:Prop}(h:xclear T fr mem nx t x=some (sv,mem',nx',k))(hk:k):OpOk P N fr mem nx o sv mem' nx':=by
 unfold xclear at h
 split at h
 ·rename_i ti hti
  have hdesc:=(hT t ti hti).desc
  split at h
  ·rename_i e hd
   rw [hd] at hdesc; simp only [DescOk] at hdesc
   split at h
   ·rename_i ei r lo n hei hx
    split at h
    ·rename_i E xs z hr hzero hz
     have hz:ei.cells=1:=Nat.eq_of_beq_eq_true hz
     split at h
     ·rename_i hzb
      simp only [Option.some.injEq,Prod.mk.injEq] at h
      obtain ⟨rfl,rfl,rfl,rfl⟩:=h
      intro Γ ρ w a hi hf
      have g:=(evo_den hf x).1
      rw [hx] at g; simp only [Den] at g
      obtain ⟨b,cap,off,g1,g2,g3⟩:=g
      obtain ⟨zv,hzv,hzc⟩:=(hT e ei hei).zeroValue
      rw [hzero] at hzc
      obtain ⟨v,hv⟩ : ∃ v,zv.cells.toList=[v]:=by
       have:=congrArg List.length hzc
       simp only [List.length_map,List.length_cons,List.length_nil,Array.length_toList] at this
       exact List.length_eq_one_iff.1 (by simpa using this)
      obtain ⟨hd1,hd2,hd3,hd4⟩:=consts_den (Γ:=Γ) (ρ:=Env.nil) (n:=0) hzc
      rw [hv] at hd1 hd2
      have hv1:v.oneCell'=true:=hd2 v (by simp)
      have hdv:Den Γ Env.nil z v:=by
       simp only [DenL] at hd1
       obtain ⟨u,r',e1,e2,_⟩:=hd1
       cases e1; exact e2
      obtain ⟨v',h1,h2⟩:=(hi.priv r _ hr).1
      by_cases hn:n=0
      ·subst hn
       have e0:xs.take lo++List.replicate 0 z++xs.drop (lo + 0)=xs:=by simp
       have hsame:∀ m,fnd (upd mem r (.row 1 E (xs.take lo++List.replicate 0 z++xs.drop (lo + 0)))) m=fnd mem m:=fun m=>by
        rw [fnd_upd mem r m _ (by rw [hr]; rfl),e0]
        split
        ·rename_i e; subst e; exact hr.symm
        ·rfl
       refine ⟨.tuple #[],.value (.tuple #[]),Γ,ρ,w,?_,.inl rfl,by simp only [Den]; exact ⟨#[],rfl,by simp [DenL]⟩,rfl,?_,Env.same_refl _ _,Nat.le_refl _,?_,Gh.le_refl _,fun _ hb=>.inl hb⟩
       ·simp [execOp,ho,resolve,invoke,builtin,g3,Builtin.clear_,run_underlying hdesc]
       ·exact ⟨hi.pub,fun m B h=>by rw [hsame] at h; exact hi.priv m B h,fun m m' c B B' h h'=>by rw [hsame] at h h'; exact hi.inj m m' c B B' h h'⟩
       ·exact ⟨rfl,rfl,rfl,Nat.le_refl _,fun _ _ _=>rfl,fun c hc=>by
         obtain ⟨m,B,h,hb⟩:=hc
         rw [hsame] at h; exact .inl ⟨m,B,h,hb⟩⟩
      ·have g2:=g2 hn
       rw [Nat.mul_one] at g2
       rw [g2] at g3
       rcases h2 with ⟨_,rfl,_⟩ | ⟨b',arr,cap',hb',_,hheap,hcap,hsz,hE,hone,hΓ⟩
       ·simp at hk; omega
       rw [g1] at hb'; cases hb'
       have hzr:(Builtin.zeroCells zv.cells n).toList=List.replicate n v:=by
        have hz1:zv.cells = #[v]:=by apply Array.toList_inj.1; simpa using hv
        rw [hz1]
        apply List.ext_getElem
        ·simp [Builtin.zeroCells]
        ·intro i h1 h2
         simp [Builtin.zeroCells,Nat.mod_one]
       have hones:∀ c∈List.replicate n v,c.oneCell'=true:=fun c hc=>by rw [List.eq_of_mem_replicate hc]; exact hv1
       have hrun:=run_storeCells_at (P:=P) b lo E (List.replicate n v) 0 arr w hheap (by simp at hsz ⊢; omega) hones
       simp only [Nat.add_zero,List.length_replicate] at hrun
       refine ⟨.tuple #[],.value (.tuple #[]),Γ,ρ,w.setRow b (arr.toList.take lo++List.replicate n v++arr.toList.drop (lo + n)).toArray,?_,.inl rfl,by simp only [Den]; exact ⟨#[],rfl,by simp [DenL]⟩,rfl,?_,Env.same_refl _ _,Nat.le_refl _,?_,Gh.le_refl _,fun _ hb=>.inl hb⟩
       ·obtain ⟨m,rfl⟩ : ∃ m,n=m + 1:=⟨n - 1,om⟩
        simp [execOp,ho,resolve,invoke,builtin,g3,Builtin.clear_,run_underlying hdesc,hzv,hzr,hrun]
       ·refine hi.set hr g1 hΓ _ (fun k hk=>setRow_other w b k _ hk) ⟨v',h1,.inr ⟨b,_,cap',g1,by
         have hl:(xs.take lo++List.replicate n z++xs.drop (lo + n)).length=xs.length:=by simp; omega
         rw [hl]; assumption,setRow_heap w b arr _ E _ hheap,?_,?_,?_,?_,hΓ⟩⟩ rfl
        ·simp; omega
        ·simp at hsz ⊢; omega
        ·have:=DenE.splice (lo:=lo) hE (ys:=List.replicate n z) (by simp; omega) (by simp at hsz ⊢; omega) (DenE.rep hdv hv1 n) (by simp)
         simpa using this
        ·intro c hc
         simp only [List.mem_append] at hc
         rcases hc with (hc | hc) | hc
         ·exact hone c (List.mem_of_mem_take hc)
         ·exact hones c hc
         ·exact hone c (List.mem_of_mem_drop hc)
       ·exact Stp.set _ hr g1 rfl rfl rfl (by simp) (fun k hk=>setRow_other w b k _ hk)
     ·cases h
    ·cases h
   ·cases h
  ·cases h
 ·cases h
end
def lkE:List (Int×SV)->Int->Option SV
 | [],_=>none
 | (m,s) :: es,n=>if m=n then some s else lkE es n
def stE:List (Int×SV)->Int->SV->List (Int×SV)
 | [],n,v=>[(n,v)]
 | (m,s) :: es,n,v=>if m=n then (m,v) :: es else (m,s) :: stE es n v
def lkD (es:List (Int×SV))(n:Int)(z:SV):SV:=match lkE es n with
 | some s=>s
 | none=>z
def lkT (es:List (Int×SV))(n:Int)(z:SV):SV:=match lkE es n with
 | some s=>.tup [s,.bool true]
 | none=>.tup [z,.bool false]
def ikN:IntKind->Nat
 | .i8=>0 | .i16=>1 | .i32=>2 | .i64=>3 | .u8=>4 | .u16=>5 | .u32=>6 | .u64=>7
theorem ikN_inj {a b:IntKind}(h:Nat.beq (ikN a) (ikN b)=true):a=b:=by
 cases a <;> cases b <;> first | rfl | (exfalso; revert h; decide)
theorem lkE_bd {n:Nat} : ∀ {es:List (Int×SV)} {m:Int} {s:SV},bdE n es=true->lkE es m=some s->s.bd n=true
 | [],_,_,_,h=>by simp [lkE] at h
 | (q,t) :: es,m,s,hb,h=>by
  simp only [bdE,Bool.and_eq_true] at hb
  simp only [lkE] at h
  split at h
  ·cases h; exact hb.1
  ·exact lkE_bd hb.2 h
theorem stE_bd {n:Nat}{s:SV}(hs:s.bd n=true):∀ {es:List (Int×SV)} {m:Int},bdE n es=true->bdE n (stE es m s)=true
 | [],_,_=>by simp [stE,bdE,hs]
 | (q,t) :: es,m,hb=>by
  simp only [bdE,Bool.and_eq_true] at hb
  simp only [stE]
  split
  ·simp [bdE,hs,hb.2]
  ·simp [bdE,hb.1,stE_bd hs hb.2]
theorem ents_find {Γ:Gh}{ρ:Env}{k:IntKind}{n:Int} : ∀ (es:List (Int×SV)) (l:List MapEntry) (i:Nat),EntsOk Γ ρ k es l ->
  (Instr.findNow (.int k) (.int k n) l i=some none/\lkE es n=none/\∀ (v:Value) (s:SV) (born:Nat),Den Γ ρ s v->EntsOk Γ ρ k (stE es n s) (l++[⟨.int k n,v,born⟩])) \/
  ∃ j e s,Instr.findNow (.int k) (.int k n) l i=some (some (i + j,e.val))/\l[j]? = some e/\e.key = .int k n/\lkE es n=some s/\Den Γ ρ s e.val/\∀ (v:Value) (s':SV),Den Γ ρ s' v->EntsOk Γ ρ k (stE es n s') (l.modify j (fun e=>{ e with key:=.int k n,val:=v }))
 | [],l,i,h=>by
  subst h
  exact .inl ⟨rfl,rfl,fun v s born hs=>⟨_,_,rfl,rfl,hs,rfl⟩⟩
 | (m,t) :: es,l,i,h=>by
  obtain ⟨e,r,rfl,h1,h2,h3⟩:=h
  by_cases hm:m=n
  ·subst hm
   refine .inr ⟨0,e,t,?_,rfl,h1,by simp [lkE],h2,fun v s' hs=>?_⟩
   ·simp [Instr.findNow,Instr.sameNow,h1]
   ·simp only [stE,if_true,List.modify_zero_cons]
    exact ⟨_,_,rfl,rfl,hs,h3⟩
  ·have hs:Instr.sameNow (.int k) (.int k n) e.key=some false:=by
    rw [h1]; simp [Instr.sameNow,Ne.symm hm]
   rcases ents_find (n:=n) es r (i + 1) h3 with ⟨g1,g2,g3⟩ | ⟨j,e',s,g1,g2,g3,g4,g5,g6⟩
   ·refine .inl ⟨by simp [Instr.findNow,hs,g1],by simp [lkE,hm,g2],fun v s born hv=>?_⟩
    simp only [stE,if_neg hm]
    exact ⟨e,_,rfl,h1,h2,g3 v s born hv⟩
   ·refine .inr ⟨j + 1,e',s,?_,by simpa using g2,g3,by simp [lkE,hm,g4],g5,fun v s' hv=>?_⟩
    ·simp only [Instr.findNow,hs,g1]; congr 3; omega
    ·simp only [stE,if_neg hm,List.modify_succ_cons]
     exact ⟨e,_,rfl,h1,h2,g6 v s' hv⟩
section
variable {P:Program} {T:Tab} {N:Nat} {fr:Fr} {mem:Mem} {nx:Nat} {o:Oper}
def mapTy (T:Tab)(t:Nat):Option (Nat×Nat×IntKind×SV):=match fnd T t with
 | some ti=>match ti.d with
  | .map kt et=>match fnd T kt,fnd T et with
   | some ki,some ei=>match ki.d,ei.zero,ei.agg with
    | .int k,[z],false=>some (kt,et,k,z)
    | _,_,_=>none
   | _,_=>none
  | _=>none
 | none=>none
theorem mapTy_ok (hT:TabOk P T){t kt et:Nat}{k:IntKind}{z:SV}(h:mapTy T t=some (kt,et,k,z)) :
  P.underlying t=some (.map kt et)/\P.underlying kt=some (.int k)/\∃ zv:Value,(∀ w,(zeroValue et).run P w = .ok zv w)/\∀ (Γ:Gh) (ρ:Env) (n:Nat),Den Γ ρ z zv/\z.bd n=true:=by
 unfold mapTy at h
 split at h
 ·rename_i ti hti
  split at h
  ·rename_i a b hd
   have h1:=(hT t ti hti).desc
   rw [hd] at h1
   split at h
   ·rename_i ki ei hki hei
    split at h
    ·rename_i k' z' hk hz hag
     simp only [Option.some.injEq,Prod.mk.injEq] at h
     obtain ⟨rfl,rfl,rfl,rfl⟩:=h
     have h2:=(hT _ ki hki).desc
     rw [hk] at h2
     obtain ⟨zv,g1,g2⟩:=(hT _ ei hei).zeroValue
     have h3:=(hT _ ei hei).one hag
     have h4:zv.oneCell'=true:=by
      obtain ⟨i,q1,_,_,q2⟩:=(hT _ ei hei).typeInfo
      have:=g1 default
      rw [q2] at h3
      cases hq:i.zero with
      | none=>simp [hq] at h3
      | some z0 =>
       simp [hq] at h3
       simp [zeroValue,q1,hq] at this
       rw [<- this]; exact h3
     refine ⟨h1,h2,zv,g1,fun Γ ρ n=>?_⟩
     obtain ⟨g3,g4,g5,_⟩:=consts_den (Γ:=Γ) (ρ:=ρ) (n:=n) g2
     rw [hz] at g3 g5
     rw [cells_of_one h4] at g3
     simp only [DenL] at g3
     obtain ⟨v,r,e1,g6,e2⟩:=g3
     cases e1
     exact ⟨g6,by simpa [bdL] using g5⟩
    ·cases h
   ·cases h
  ·cases h
 ·cases h
def isT:SV->Bool
 | .bool b=>b
 | _=>false
def xmakeMap (T:Tab)(mem:Mem)(nx:Nat)(t:Nat)(res:Option Operand)(q:SV):R:=match res,mapTy T t with
 | none,some (_,_,k,_)=>some (.own nx,(nx,.mp (isT q) k []) :: mem,nx + 1,True)
 | _,_=>none
def xlookup (T:Tab)(fr:Fr)(mem:Mem)(nx:Nat)(t:Nat)(x i:Operand)(ok:Bool)(q:SV):R:=match mapTy T t,evo fr x,evo fr i with
 | some (_,_,k,z),.own r,.int k' n=>match fnd mem r with
  | some (.mp _ k2 es)=>match Nat.beq (ikN k) (ikN k'),Nat.beq (ikN k) (ikN k2) with
   | true,true=>some (q,mem,nx,(match ok with | true=>lkT es n z | false=>lkD es n z)=q)
   | _,_=>none
  | _=>none
 | _,_,_=>none
def xmapUpdate (T:Tab)(fr:Fr)(mem:Mem)(nx:Nat)(t:Nat)(m key v:Operand):R:=match mapTy T t,evo fr m,evo fr key with
 | some (_,_,k,_),.own r,.int k' n=>match fnd mem r with
  | some (.mp p k2 es)=>match Nat.beq (ikN k) (ikN k'),Nat.beq (ikN k) (ikN k2),(evo fr v).single,(!p || (evo fr v).bd 0) with
   | true,true,true,true=>some (.junk,upd mem r (.mp p k (stE es n (evo fr v))),nx,True)
   | _,_,_,_=>none
  | _=>none
 | _,_,_=>none
def xnil (fr:Fr)(mem:Mem)(nx:Nat)(x:Operand):R:=match evo fr x with
 | .loc r i=>some (.loc r i,mem,nx,True)
 | _=>none
theorem ok_nil {x:Operand}(ho:o.op = .nilCheck x){sv:SV}{mem':Mem}{nx':Nat}{k:Prop}(h:xnil fr mem nx x=some (sv,mem',nx',k)):OpOk P N fr mem nx o sv mem' nx':=by
 unfold xnil at h
 split at h
 ·rename_i r i hx
  simp only [Option.some.injEq,Prod.mk.injEq] at h
  obtain ⟨rfl,rfl,rfl,rfl⟩:=h
  refine OpOk.pure fun Γ ρ w a hi hff=>?_
  obtain ⟨h1,h1'⟩:=evo_den hff x
  rw [hx] at h1 h1'; simp only [Den] at h1
  obtain ⟨b,hb,hv⟩:=h1
  exact ⟨_,by simp only [execOp,ho,hv,Sem.run_pure]; rfl,by simp only [Den]; exact ⟨b,hb,rfl⟩,h1'⟩
 ·cases h
theorem ok_makeMap (_:TabOk P T){t:Nat}{res:Option Operand}(ho:o.op = .makeMap t res){sv:SV}{mem':Mem}{nx':Nat}{k:Prop}{q:SV}(h:xmakeMap T mem nx t res q=some (sv,mem',nx',k)):OpOk P N fr mem nx o sv mem' nx':=by
 unfold xmakeMap at h
 split at h
 ·rename_i kt et k z hm
  simp only [Option.some.injEq,Prod.mk.injEq] at h
  obtain ⟨rfl,rfl,rfl,rfl⟩:=h
  intro Γ ρ w a hi hf
  have hB:BlkOk Γ (ρ.add nx (some w.heap.size) (some (.map (some w.heap.size)))) (w.alloc (.map #[] 0)) nx (.mp (isT q) k []):=by
   refine ⟨w.heap.size,#[],0,Env.add_blk _ _ _ _,Env.add_val _ _ _ _,heap_alloc_new _ _,rfl,?_⟩
   cases hq:Γ w.heap.size with
   | none=>rfl
   | some cs=>exact absurd (hi.lt hq) (Nat.lt_irrefl _)
  refine ⟨.map (some w.heap.size),.value (.map (some w.heap.size)),Γ,_,w.alloc (.map #[] 0),?_,.inl rfl,?_,by simp [SV.bd],hi.alloc _ _ _ hB (by simp [Blk.bd,bdE]),Env.add_same _ _ _ _,Nat.le_succ _,Stp.alloc hi _ _ _,Gh.le_refl _,fun _ hb=>.inl hb⟩
  ·simp [execOp,ho,Instr.makeMap]
  ·simp only [Den]; exact ⟨Env.add_val _ _ _ _,rfl⟩
 ·cases h
theorem own_map {Γ:Gh}{ρ:Env}{w:World}(hi:Inv Γ ρ nx mem w){r:Nat}{p:Bool}{k:IntKind}{es:List (Int×SV)}(hr:fnd mem r=some (.mp p k es)){v:Value}(hv:Den Γ ρ (.own r) v) :
  ∃ b arr clock,v = .map (some b)/\ρ.blk r=some b/\w.heap[b]? = some (.map arr clock)/\EntsOk Γ (pe p ρ) k es arr.toList/\Γ b=none/\(p || bdE nx es)=true:=by
 simp only [Den] at hv
 obtain ⟨⟨b,arr,clock,h1,h2,h3,h4,h5⟩,_,h6⟩:=hi.priv r _ hr
 rw [hv.1] at h2; cases h2
 exact ⟨b,arr,clock,rfl,h1,h3,h4,h5,h6⟩
theorem ok_lookup (hT:TabOk P T){t:Nat}{x i:Operand}{ok:Bool}(ho:o.op = .lookup t x i ok){q sv:SV}{mem':Mem}{nx':Nat}{k:Prop}(h:xlookup T fr mem nx t x i ok q=some (sv,mem',nx',k))(hk:k):OpOk P N fr mem nx o sv mem' nx':=by
 unfold xlookup at h
 split at h
 ·rename_i kt et k1 z r k2 n hm hx hi'
  obtain ⟨h1,h2,zv,h3,h4⟩:=mapTy_ok (P:=P) hT hm
  split at h
  ·rename_i p k3 es hr
   split at h
   ·rename_i e1 e2
    have e1:=ikN_inj e1; have e2:=ikN_inj e2
    subst e1; subst e2
    simp only [Option.some.injEq,Prod.mk.injEq] at h
    obtain ⟨rfl,rfl,rfl,rfl⟩:=h
    refine OpOk.pure fun Γ ρ w a hi hf=>?_
    have g:=(evo_den hf x).1
    rw [hx] at g
    have gi:=(evo_den hf i).1
    rw [hi'] at gi; simp only [Den] at gi
    obtain ⟨b,arr,clock,g1,_,g3,g4,_,g6⟩:=own_map hi hr g
    have hkey:MapKept.IsKey (.int k1) (.int k1 n):=rfl
    obtain ⟨hz1,hz2⟩:=h4 Γ ρ nx
    rcases ents_find (n:=n) es arr.toList 0 g4 with ⟨f1,f2,_⟩ | ⟨j,e,s,f1,_,_,f4,f5,_⟩
    ·cases ok with
     | true =>
      refine ⟨.tuple #[zv,.bool false],?_,?_,?_⟩
      ·simp [execOp,ho,g1,gi,Instr.lookup,run_underlying h1,MapKept.run_getObj_map g3,MapKept.run_checkKey h2 hkey,MapKept.run_findKey h2 f1,h3]
      ·rw [<- hk]; simp only [lkT,f2,Den]; exact ⟨_,rfl,by simp only [DenL]; exact ⟨_,_,rfl,hz1,_,_,rfl,by simp only [Den],rfl⟩⟩
      ·rw [<- hk]; simp [lkT,f2,SV.bd,bdL,hz2]
     | false =>
      refine ⟨zv,?_,?_,?_⟩
      ·simp [execOp,ho,g1,gi,Instr.lookup,run_underlying h1,MapKept.run_getObj_map g3,MapKept.run_checkKey h2 hkey,MapKept.run_findKey h2 f1,h3]
      ·rw [<- hk]; simp only [lkD,f2]; exact hz1
      ·rw [<- hk]; simp only [lkD,f2]; exact hz2
    ·have hbs:s.bd nx=true:=by
      cases p with
      | true =>
       by_cases hj:s = .junk
       ·subst hj; rfl
       ·exact (Den.ofNil (ρ:=ρ) s _ f5).2 nx hj
      | false=>exact lkE_bd g6 f4
     have f5:Den Γ ρ s e.val:=by
      cases p with
      | true=>exact (Den.ofNil (ρ:=ρ) s _ f5).1
      | false=>exact f5
     cases ok with
     | true =>
      refine ⟨.tuple #[e.val,.bool true],?_,?_,?_⟩
      ·simp [execOp,ho,g1,gi,Instr.lookup,run_underlying h1,MapKept.run_getObj_map g3,MapKept.run_checkKey h2 hkey,MapKept.run_findKey h2 f1]
      ·rw [<- hk]; simp only [lkT,f4,Den]; exact ⟨_,rfl,by simp only [DenL]; exact ⟨_,_,rfl,f5,_,_,rfl,by simp only [Den],rfl⟩⟩
      ·rw [<- hk]; simp [lkT,f4,SV.bd,bdL,hbs]
     | false =>
      refine ⟨e.val,?_,?_,?_⟩
      ·simp [execOp,ho,g1,gi,Instr.lookup,run_underlying h1,MapKept.run_getObj_map g3,MapKept.run_checkKey h2 hkey,MapKept.run_findKey h2 f1]
      ·rw [<- hk]; simp only [lkD,f4]; exact f5
      ·rw [<- hk]; simp only [lkD,f4]; exact hbs
   ·cases h
  ·cases h
 ·cases h
theorem ok_mapUpdate (hT:TabOk P T){t:Nat}{m key v:Operand}(ho:o.op = .mapUpdate t m key v\/o.op = .insert t m key v){sv:SV}{mem':Mem}{nx':Nat}{k:Prop}(h:xmapUpdate T fr mem nx t m key v=some (sv,mem',nx',k)):OpOk P N fr mem nx o sv mem' nx':=by
 unfold xmapUpdate at h
 split at h
 ·rename_i kt et k1 z r k2 n hm hx hi'
  obtain ⟨h1,h2,_⟩:=mapTy_ok (P:=P) hT hm
  split at h
  ·rename_i p k3 es hr
   split at h
   ·rename_i e1 e2 hs hp
    have e1:=ikN_inj e1; have e2:=ikN_inj e2
    subst e1; subst e2
    simp only [Option.some.injEq,Prod.mk.injEq] at h
    obtain ⟨rfl,rfl,rfl,rfl⟩:=h
    intro Γ ρ w a hi hf
    have g:=(evo_den hf m).1
    rw [hx] at g
    have gi:=(evo_den hf key).1
    rw [hi'] at gi; simp only [Den] at gi
    obtain ⟨gv,gv'⟩:=evo_den hf v
    obtain ⟨b,arr,clock,g1,g2,g3,g4,g5,g6⟩:=own_map hi hr g
    have gv2:Den Γ (pe p ρ) (evo fr v) (a.eval v):=by
     cases p with
     | true=>exact gv.ofBd0 (by simpa using hp)
     | false=>exact gv
    have hbd2:(p || bdE nx (stE es n (evo fr v)))=true:=by
     cases p with
     | true=>rfl
     | false=>exact stE_bd gv' g6
    have hkey:MapKept.IsKey (.int k1) (.int k1 n):=rfl
    have hval:ρ.val r=some (.map (some b)):=by
     simp only [Den] at g; rw [g.1,g1]
    obtain ⟨es',clock',hrun,hes⟩ : ∃ es' clock',(Instr.mapUpdate t (.map (some b)) (.int k1 n) (a.eval v)).run P w = .ok () { w with heap:=w.heap.setIfInBounds b (.map es' clock') }/\EntsOk Γ (pe p ρ) k1 (stE es n (evo fr v)) es'.toList:=by
     rcases ents_find (n:=n) es arr.toList 0 g4 with ⟨f1,_,f3⟩ | ⟨j,e,s,f1,f2,f3,_,_,f6⟩
     ·refine ⟨arr.push ⟨.int k1 n,a.eval v,clock⟩,clock + 1,?_,by simpa using f3 _ _ clock gv2⟩
      simp [Instr.mapUpdate,run_underlying h1,MapKept.run_getObj_map g3,MapKept.run_checkKey h2 hkey,MapKept.run_findKey h2 f1,MapKept.run_setObj_map _ g3]
     ·have hj:arr[j]? = some e:=by simpa using f2
      refine ⟨arr.modify j fun e=>{ e with key:=.int k1 n,val:=a.eval v },clock,?_,by simpa using f6 _ _ gv2⟩
      simp [Instr.mapUpdate,run_underlying h1,MapKept.run_getObj_map g3,MapKept.run_checkKey h2 hkey,MapKept.run_findKey h2 f1,hj,f3,MapKept.run_keyThatStays hkey,MapKept.run_setObj_map _ g3]
    have hother:∀ c,c≠b->({ w with heap:=w.heap.setIfInBounds b (.map es' clock') } : World).heap[c]? = w.heap[c]?:=fun c hc=>(MapKept.heap_set g3).2 c hc
    refine ⟨undef,.skip,Γ,ρ,_,?_,.inr ⟨rfl,rfl⟩,by simp only [Den],rfl,hi.set hr g2 g5 _ hother ⟨b,es',clock',g2,hval,(MapKept.heap_set g3).1,hes,g5⟩ hbd2,Env.same_refl _ _,Nat.le_refl _,Stp.set _ hr g2 rfl rfl rfl (by simp) hother,Gh.le_refl _,fun _ hb=>.inl hb⟩
    rcases ho with ho | ho <;> simp [execOp,ho,g1,gi,hrun]
   ·cases h
  ·cases h
 ·cases h
end
end Go.Proofs.YtmmfpkkamgapkaaGreat.X
