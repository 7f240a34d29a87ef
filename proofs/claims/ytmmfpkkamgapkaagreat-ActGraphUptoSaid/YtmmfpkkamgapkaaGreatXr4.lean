/- An array of truth values as one row: it is laid,a place of it,words that were met. -/
import Derived.Test.YtmmfpkkamgapkaaGreatXr3
import Derived.Test.YtmmfpkkamgapkaaGreatXu4
namespace Go.Proofs.YtmmfpkkamgapkaaGreat.X
open Go Go.RowKit
set_option linter.unusedVariables false
theorem denE_one {Γ:Gh} : ∀ {l:List SV} {vs:List Value},vs.map some=l.map SV.const->DenE Γ 1 l vs
 | [],_,_=>by simp [DenE]
 | s :: l,[],h=>by simp at h
 | s :: l,v :: vs,h=>by
  simp only [List.map_cons,List.cons.injEq] at h
  obtain ⟨h1,h2,_⟩:=const_den (Γ:=Γ) (ρ:=Env.nil) (n:=0) h.1.symm
  simp only [DenE]
  exact ⟨⟨v,h1,by rw [cells_of_one h2]; rfl,by rw [cells_of_one h2]; rfl⟩,by simpa using denE_one h.2⟩
section
variable {P:Program} {T:Tab} {N:Nat} {fr:Fr} {mem:Mem} {nx:Nat} {o:Oper}
theorem ok_allocR (hT:TabOk P T){t:Nat}{ti:TI}(ho:o.op = .alloc t)(h:fnd T t=some ti):OpOk P N fr mem nx o (.loc nx 0) ((nx,.row 1 t ti.zero) :: mem) (nx + 1):=by
 intro Γ ρ w a hi hf
 obtain ⟨zv,h1,h2⟩:=(hT t ti h).zeroValue
 obtain ⟨_,h4,_,_⟩:=consts_den (Γ:=Γ) (ρ:=ρ) (n:=nx) h2
 have hlen:ti.zero.length=zv.cells.size:=by have:=congrArg List.length h2; simpa using this.symm
 refine ⟨_,_,Γ,ρ.add nx (some w.heap.size) (some (.slice (some ⟨w.heap.size,0,none⟩) ti.zero.length ti.zero.length)),_,by simp [execOp,ho,Instr.alloc,h1,newVar,newRow]; exact ⟨rfl,rfl⟩,.inl rfl,?_,by simp [SV.bd],?_,Env.add_same _ _ _ _,Nat.le_succ _,Stp.alloc hi _ _ _,Gh.le_refl _,fun _ hb=>.inl hb⟩
 ·simp only [Den]; exact ⟨_,Env.add_blk _ _ _ _,rfl⟩
 ·refine hi.alloc _ _ (.row 1 t ti.zero) ⟨_,Env.add_val _ _ _ _,.inr ⟨w.heap.size,zv.cells,ti.zero.length,Env.add_blk _ _ _ _,rfl,by rw [heap_alloc_new],Nat.le_refl _,om,denE_one h2,h4,?_⟩⟩ rfl
  cases hq:Γ w.heap.size with
  | none=>rfl
  | some cs'=>exact absurd (hi.lt hq) (Nat.lt_irrefl _)
end
def allocAt (N:Nat)(ops:Array Oper)(fr:Fr)(i:Nat):Option (Nat×Nat):=match ops.toList[i]? with
 | some o=>match o.op,gd ops fr o.guard,o.dst with
  | .alloc t,some true,some d=>match Nat.blt d N with
   | true=>some (t,d)
   | false=>none
  | _,_,_=>none
 | none=>none
section
variable {rd:Option Nat} {P:Program} {T:Tab} {N n0:Nat} {ops:Array Oper}
theorem xoi_allocR (hT:TabOk P T){i:Nat}{K:St->Prop}{s:St}{t d:Nat}{z:List SV}(hz:(fnd T t).map TI.zero=some z)(hx:XOi rd P N n0 ops (i + 1) K ⟨(d,.loc s.nx 0) :: s.fr,(s.nx,.row 1 t z) :: s.mem,s.nx + 1⟩)(h:allocAt N ops s.fr i=some (t,d):=by kernel_rfl):XOi rd P N n0 ops i K s:=by
 unfold allocAt at h
 split at h
 ·rename_i o ho
  split at h
  ·rename_i t' d' hop hg hd
   split at h
   ·rename_i hN
    simp only [Option.some.injEq,Prod.mk.injEq] at h
    obtain ⟨rfl,rfl⟩:=h
    cases hq:fnd T t' with
    | none=>rw [hq] at hz; cases hz
    | some ti =>
     rw [hq] at hz
     cases hz
     unfold XOi
     rw [drop_cons ho]
     exact xo_op hg (ok_allocR hT hop hq) (by simp only [putS,hd,hN]) hx
   ·cases h
  ·cases h
 ·cases h
theorem setl {i:Nat}{K:St->Prop}{s:St}(d:Nat){r k:Nat}(hd:fnd s.fr d=some (.loc r k))(h:XOi rd P N n0 ops i K ⟨(d,.relt r 1 k 0) :: s.fr,s.mem,s.nx⟩):XOi rd P N n0 ops i K s:=by
 refine xo_le (s':=⟨(d,.relt r 1 k 0) :: s.fr,s.mem,s.nx⟩) (fun Γ ρ w a hn hok=>⟨ρ,Env.same_refl _ _,hn,⟨hok.inv,hok.marks,hok.frame.size,fun t v hv=>?_⟩,fun _ h=>h⟩) h
 rw [fnd_cons] at hv
 split at hv
 ·rename_i e; subst e; cases hv
  obtain ⟨h1,h2⟩:=hok.frame.slot d _ hd
  refine ⟨?_,h2⟩
  simp only [Den] at h1 ⊢
  obtain ⟨b,g1,g2⟩:=h1
  exact ⟨b,g1,by rw [g2]; simp⟩
 ·exact hok.frame.slot t v hv
end
def tkM (o:List Int):List SV:=(List.range 8192).map fun k:Nat=>.bool (hasB o (k:Int))
theorem tk_len {o:List Int} : (tkM o).length=8192:=by unfold tkM; simp
theorem tk_0:List.replicate 8192 (SV.bool false)=tkM []:=by
 unfold tkM
 have:(fun k:Nat=>SV.bool (hasB [] (k:Int)))=Function.const Nat (SV.bool false):=by funext k; simp [hasB]
 rw [this,List.map_const,List.length_range]
section
variable {o:List Int} {s p:Int}
theorem tk_at (h0:0<=s/\s<=1)(h1:0<=p/\p<4096):(tkM o)[(0 + s.toNat * 4096) + p.toNat * 1]? = some (.bool (hasB o (s * 4096 + p))):=by
 unfold tkM
 rw [List.getElem?_map,List.getElem?_range om]
 simp only [Option.map_some]
 rw [show (((0 + s.toNat * 4096) + p.toNat * 1:Nat):Int)=s * 4096 + p by omega]
theorem tk_set (h0:0<=s/\s<=1)(h1:0<=p/\p<4096):(tkM o).set ((0 + s.toNat * 4096) + p.toNat * 1) (.bool true)=tkM (o++[s * 4096 + p]):=by
 refine List.ext_getElem? fun j=>?_
 unfold tkM
 rw [List.getElem?_set]
 by_cases hj:j<8192
 ·rw [List.getElem?_map,List.getElem?_map,List.getElem?_range hj]
  simp only [Option.map_some,List.length_map,List.length_range]
  by_cases e:(0 + s.toNat * 4096) + p.toNat * 1=j
  ·rw [if_pos e,if_pos om]
   have:(j:Int)=s * 4096 + p:=om
   simp [hasB,this]
  ·rw [if_neg e]
   have:¬ (j:Int)=s * 4096 + p:=om
   simp [hasB,this]
 ·rw [List.getElem?_eq_none (by simp; omega),List.getElem?_eq_none (by simp; omega)]
  split
  ·rw [if_neg (by simp; omega)]
  ·rfl
end
end Go.Proofs.YtmmfpkkamgapkaaGreat.X
