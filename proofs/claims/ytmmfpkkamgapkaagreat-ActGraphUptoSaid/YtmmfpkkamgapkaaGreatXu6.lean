/- Threads,operations,answers: how they stand as symbolic values,and as arguments. -/
import Derived.Test.YtmmfpkkamgapkaaGreatXs
import Derived.Test.YtmmfpkkamgapkaaGreatXu1
namespace Go.Proofs.YtmmfpkkamgapkaaGreat.X
open Go Go.RowKit
theorem lv_entS {B:Nat}{s:SV}(h:Lv B (.sl true 2 16 [.int .u64,.int .i64]) s):∃ es:List Ent,s = .sl false 2 (es.map entS)/\Ents es/\es.length * 16<=B:=by
 simp only [Lv,LvAll] at h
 obtain ⟨xs,rfl,h1,h2⟩:=h
 obtain ⟨es,rfl,h3⟩:=lift_map entS (fun e:Ent=>(0<=e.1/\e.1<=18446744073709551615)/\(-9223372036854775808<=e.2/\e.2<=9223372036854775807)) (xs:=xs) (fun x hx=>by
  obtain ⟨l,rfl,_,_,rfl,⟨a,rfl,ha⟩,_,_,rfl,⟨b,rfl,hb⟩,rfl⟩:=h2 x hx
  exact ⟨(a,b),rfl,bounds_u64 ha,bounds_i64 hb⟩)
 exact ⟨es,rfl,h3,by simpa using h1⟩
set_option linter.unusedVariables false
structure OpV where
 (k h i j v t l m:Int)
structure AnsV where
 (e v:Int) (y:Bool)
structure Th where
 (st:List Int) (b0 b1:Int) (lg:List Ent) (lf:List OpV) (pd:List Ent) (wt:Bool) (dn:List AnsV)
abbrev tN (E:Th)(lf:List OpV)(dn:List AnsV):Th:=Th.mk (Th.st E) (Th.b0 E) (Th.b1 E) (Th.lg E) lf (Th.pd E) (Th.wt E) dn
abbrev opZ:OpV:=⟨0,0,0,0,0,0,0,0⟩
abbrev ansZ:AnsV:=⟨0,0,false⟩
abbrev thZ:Th:=⟨[],0,0,[],[],[],false,[]⟩
def opS (o:OpV):SV:=.agg [.int .i64 o.k,.int .i64 o.h,.int .i64 o.i,.int .i64 o.j,.int .u64 o.v,.int .i64 o.t,.int .i64 o.l,.int .u64 o.m]
def ansS (a:AnsV):SV:=.agg [.int .i64 a.e,.int .u64 a.v,.bool a.y]
def thS (t:Th):SV:=.agg [.sl false 1 (t.st.map (SV.int .u64)),.int .i64 t.b0,.int .i64 t.b1,.sl false 2 (t.lg.map entS),.sl false 8 (t.lf.map opS),.sl false 2 (t.pd.map entS),.bool t.wt,.sl false 3 (t.dn.map ansS)]
def opA (xs:List OpV)(n:Int):OpV:=xs.getD n.toNat opZ
def ansA (xs:List AnsV)(n:Int):AnsV:=xs.getD n.toNat ansZ
def thA (xs:List Th)(n:Int):Th:=xs.getD n.toNat thZ
def OpOkV (o:OpV):Prop:=(-9223372036854775808<=o.k/\o.k<=9223372036854775807)/\(-9223372036854775808<=o.h/\o.h<=9223372036854775807)/\(-9223372036854775808<=o.i/\o.i<=9223372036854775807)/\(-9223372036854775808<=o.j/\o.j<=9223372036854775807)/\(0<=o.v/\o.v<=18446744073709551615)/\(-9223372036854775808<=o.t/\o.t<=9223372036854775807)/\(-9223372036854775808<=o.l/\o.l<=9223372036854775807)/\(0<=o.m/\o.m<=18446744073709551615)
def AnsOkV (a:AnsV):Prop:=(-9223372036854775808<=a.e/\a.e<=9223372036854775807)/\(0<=a.v/\a.v<=18446744073709551615)
def Ops (xs:List OpV):Prop:=∀ o∈xs,OpOkV o
def Anss (xs:List AnsV):Prop:=∀ a∈xs,AnsOkV a
def ThOk (t:Th):Prop:=U64s t.st/\(t.st.length:Int) * 8<=140737488355000/\(-9223372036854775808<=t.b0/\t.b0<=9223372036854775807)/\(-9223372036854775808<=t.b1/\t.b1<=9223372036854775807)/\Ents t.lg/\(t.lg.length:Int) * 16<=140737488355000/\Ops t.lf/\(t.lf.length:Int) * 64<=140737488355000/\Ents t.pd/\(t.pd.length:Int) * 16<=140737488355000/\Anss t.dn/\(t.dn.length:Int) * 24<=140737488355000
def Ths (xs:List Th):Prop:=∀ t∈xs,ThOk t
theorem elem_ans {xs:List AnsV} : ∀ y∈xs.map ansS,ElemOk y:=by
 intro y hy
 obtain ⟨n,_,rfl⟩:=List.mem_map.1 hy
 rfl
theorem elem_th {xs:List Th} : ∀ y∈xs.map thS,ElemOk y:=by
 intro y hy
 obtain ⟨n,_,rfl⟩:=List.mem_map.1 hy
 rfl
theorem getD_in {α:Type}{Q:α->Prop}{xs:List α}{z:α}(h:∀ x∈xs,Q x)(hz:Q z)(n:Nat):Q (xs.getD n z):=by
 rw [List.getD_eq_getElem?_getD]
 by_cases hn:n<xs.length
 ·rw [List.getElem?_eq_getElem hn]; exact h _ (List.getElem_mem hn)
 ·rw [List.getElem?_eq_none om]; exact hz
theorem ix_any {α:Type}{f:α->SV}{xs:List α}{z:α}{n:Int}(h0:0<=n)(h1:n<(xs.length:Int)):0<=n/\n<((xs.map f).length:Int)/\(xs.map f)[n.toNat]? = some (f (xs.getD n.toNat z)):=by
 have h2:n.toNat<xs.length:=om
 exact ⟨h0,by simpa using h1,by simp [h2]⟩
theorem ix_op {xs:List OpV}{n:Int}(h0:0<=n)(h1:n<(xs.length:Int)):0<=n/\n<((xs.map opS).length:Int)/\(xs.map opS)[n.toNat]? = some (opS (opA xs n)):=ix_any h0 h1
theorem ix_ans {xs:List AnsV}{n:Int}(h0:0<=n)(h1:n<(xs.length:Int)):0<=n/\n<((xs.map ansS).length:Int)/\(xs.map ansS)[n.toNat]? = some (ansS (ansA xs n)):=ix_any h0 h1
theorem ix_th {xs:List Th}{n:Int}(h0:0<=n)(h1:n<(xs.length:Int)):0<=n/\n<((xs.map thS).length:Int)/\(xs.map thS)[n.toNat]? = some (thS (thA xs n)):=ix_any h0 h1
theorem Ops.at {xs:List OpV}(h:Ops xs)(n:Int):OpOkV (opA xs n):=getD_in h (by unfold OpOkV; simp) _
theorem Anss.at {xs:List AnsV}(h:Anss xs)(n:Int):AnsOkV (ansA xs n):=getD_in h (by unfold AnsOkV; simp) _
theorem Ths.at {xs:List Th}(h:Ths xs)(n:Int):ThOk (thA xs n):=getD_in h (by unfold ThOk; simp [U64s,Ents,Ops,Anss]) _
theorem Ops.drop {xs:List OpV}(h:Ops xs)(n:Nat):Ops (xs.drop n):=fun o ho=>h o (List.mem_of_mem_drop ho)
theorem Anss.app {xs ys:List AnsV}(h:Anss xs)(k:Anss ys):Anss (xs++ys):=fun e he=>(List.mem_append.1 he).elim (h e) (k e)
theorem lv_opS {B:Nat}{s:SV}(h:Lv B (.sl true 8 64 [.int .i64,.int .i64,.int .i64,.int .i64,.int .u64,.int .i64,.int .i64,.int .u64]) s):∃ es:List OpV,s = .sl false 8 (es.map opS)/\Ops es/\es.length * 64<=B:=by
 simp only [Lv,LvAll] at h
 obtain ⟨xs,rfl,h1,h2⟩:=h
 obtain ⟨es,rfl,h3⟩:=lift_map opS OpOkV (xs:=xs) (fun x hx=>by
  obtain ⟨l,rfl,_,_,rfl,⟨a,rfl,ha⟩,_,_,rfl,⟨b,rfl,hb⟩,_,_,rfl,⟨c,rfl,hc⟩,_,_,rfl,⟨d,rfl,hd⟩,_,_,rfl,⟨e,rfl,he⟩,_,_,rfl,⟨f,rfl,hf⟩,_,_,rfl,⟨g,rfl,hg⟩,_,_,rfl,⟨i,rfl,hi⟩,rfl⟩:=h2 x hx
  exact ⟨⟨a,b,c,d,e,f,g,i⟩,rfl,bounds_i64 ha,bounds_i64 hb,bounds_i64 hc,bounds_i64 hd,bounds_u64 he,bounds_i64 hf,bounds_i64 hg,bounds_u64 hi⟩)
 exact ⟨es,rfl,h3,by simpa using h1⟩
theorem lv_ansS {B:Nat}{s:SV}(h:Lv B (.sl true 3 24 [.int .i64,.int .u64,.bool]) s):∃ es:List AnsV,s = .sl false 3 (es.map ansS)/\Anss es/\es.length * 24<=B:=by
 simp only [Lv,LvAll] at h
 obtain ⟨xs,rfl,h1,h2⟩:=h
 obtain ⟨es,rfl,h3⟩:=lift_map ansS AnsOkV (xs:=xs) (fun x hx=>by
  obtain ⟨l,rfl,_,_,rfl,⟨a,rfl,ha⟩,_,_,rfl,⟨b,rfl,hb⟩,_,_,rfl,⟨c,rfl⟩,rfl⟩:=h2 x hx
  exact ⟨⟨a,b,c⟩,rfl,bounds_i64 ha,bounds_u64 hb⟩)
 exact ⟨es,rfl,h3,by simpa using h1⟩
def Thg (xs:List Th):Prop:=∀ t∈xs,(t.dn.length:Int) * 24<=140737488351232/\(t.lg.length:Int) * 16<=140737488351232
theorem lv_thS {B:Nat}{s:SV}(hB:B<=140737488351232)(h:Lv B (.sl true 8 144 [.ints .u64 8,.int .i64,.int .i64,.sl true 2 16 [.int .u64,.int .i64],.sl true 8 64 [.int .i64,.int .i64,.int .i64,.int .i64,.int .u64,.int .i64,.int .i64,.int .u64],.sl true 2 16 [.int .u64,.int .i64],.bool,.sl true 3 24 [.int .i64,.int .u64,.bool]]) s):∃ es:List Th,s = .sl false 8 (es.map thS)/\(Ths es/\Thg es)/\es.length * 144<=B:=by
 rw [Lv] at h
 obtain ⟨xs,rfl,h1,h2⟩:=h
 obtain ⟨es,rfl,h3⟩:=lift_map thS (fun t=>ThOk t/\(t.dn.length:Int) * 24<=140737488351232/\(t.lg.length:Int) * 16<=140737488351232) (xs:=xs) (fun x hx=>by
  obtain ⟨l,rfl,hl⟩:=h2 x hx
  simp only [LvAll] at hl
  obtain ⟨_,_,rfl,ha,_,_,rfl,hb,_,_,rfl,hc,_,_,rfl,hd,_,_,rfl,he,_,_,rfl,hf,_,_,rfl,hg,_,_,rfl,hi,rfl⟩:=hl
  obtain ⟨es1,rfl,d1,d2⟩:=lv_entS hd
  obtain ⟨es2,rfl,e1,e2⟩:=lv_opS he
  obtain ⟨es3,rfl,f1,f2⟩:=lv_entS hf
  obtain ⟨es4,rfl,i1,i2⟩:=lv_ansS hi
  simp only [Lv] at ha hb hc hg
  obtain ⟨ns,rfl,a1,a2⟩:=ha
  obtain ⟨b,rfl,b1⟩:=hb
  obtain ⟨c,rfl,c1⟩:=hc
  obtain ⟨g,rfl⟩:=hg
  exact ⟨⟨ns,b,c,es1,es2,es3,g,es4⟩,rfl,⟨fun n hn=>bounds_u64 (a1 n hn),by simp only []; omega,bounds_i64 b1,bounds_i64 c1,d1,by simp only []; omega,e1,by simp only []; omega,f1,by simp only []; omega,i1,by simp only []; omega⟩,by simp only []; omega,by simp only []; omega⟩)
 exact ⟨es,rfl,⟨fun t ht=>(h3 t ht).1,fun t ht=>(h3 t ht).2⟩,by simpa using h1⟩
def Thq (ts:List Th):Prop:=∀ t∈ts,(t.st.length:Int)<=30000000
theorem lv_thQ {B:Nat}{s:SV}(hB:B<=240000000)(h:Lv B (.sl true 8 144 [.ints .u64 8,.int .i64,.int .i64,.sl true 2 16 [.int .u64,.int .i64],.sl true 8 64 [.int .i64,.int .i64,.int .i64,.int .i64,.int .u64,.int .i64,.int .i64,.int .u64],.sl true 2 16 [.int .u64,.int .i64],.bool,.sl true 3 24 [.int .i64,.int .u64,.bool]]) s):∃ es:List Th,s = .sl false 8 (es.map thS)/\((Ths es/\Thg es)/\Thq es)/\es.length * 144<=B:=by
 have h0:=h
 obtain ⟨es,e,h1,h2⟩:=lv_thS om h
 refine ⟨es,e,⟨h1,fun t ht=>?_⟩,h2⟩
 rw [Lv] at h0
 obtain ⟨xs,e2,_,h4⟩:=h0
 rw [e] at e2
 have e3:es.map thS=xs:=by injection e2
 obtain ⟨l,el,hl⟩:=h4 (thS t) (by rw [<- e3]; exact List.mem_map.2 ⟨t,ht,rfl⟩)
 simp only [LvAll] at hl
 obtain ⟨_,_,rfl,ha,_⟩:=hl
 simp only [Lv] at ha
 obtain ⟨ns,rfl,_,a2⟩:=ha
 have el2:t.st.map (SV.int .u64)=ns.map (SV.int .u64):=by
  have:=el
  simp only [thS,wrapL] at this
  injection this with this
  injection this with this _
  injection this
 have:=congrArg List.length el2
 simp only [List.length_map] at this
 omega
section
variable {ts:List Th} {th o e v:Int} {T E:Th} {yes:Bool} {os:List Int} {st:List Int} {b0 b1:Int} {lg pd:List Ent} {lf:List OpV} {wt:Bool} {dn:List AnsV} {a:AnsV}
theorem len_set {n:Nat} : ((List.set ts n T).length:Int)=(ts.length:Int):=by simp
theorem len_app1 {x:Int} : ((os++[x]).length:Int)=(os.length:Int) + 1:=by simp
theorem i64_app1 {x:Int}(h:I64s os)(hx : -9223372036854775808<=x/\x<=9223372036854775807):I64s (os++[x]):=fun v hv=>by
 rcases List.mem_append.1 hv with hv | hv
 ·exact h v hv
 ·rw [List.mem_singleton.1 hv]; exact hx
theorem th_set (h0:0<=th)(h1:th<(ts.length:Int)):thA (List.set ts (Int.toNat th) T) th=T:=by
 unfold thA
 rw [List.getD_eq_getElem?_getD,List.getElem?_set_self om]; rfl
theorem lf_set (h0:0<=th)(h1:th<(ts.length:Int)):((Th.lf (thA (List.set ts (Int.toNat th) (Th.mk st b0 b1 lg lf pd wt dn)) th)).length:Int)=(lf.length:Int):=by rw [th_set h0 h1]
theorem ans_last:ansA (dn++[a]) (((dn++[a]).length:Int) - 1)=a:=by
 unfold ansA
 rw [show (((dn++[a]).length:Int) - 1).toNat=dn.length by simp,List.getD_eq_getElem?_getD]; simp
theorem ans_all (h0:0<=th)(h1:th<(ts.length:Int)):ansA (Th.dn (thA (List.set ts (Int.toNat th) (Th.mk st b0 b1 lg lf pd wt (dn++[a]))) th)) (((Th.dn (thA (List.set ts (Int.toNat th) (Th.mk st b0 b1 lg lf pd wt (dn++[a]))) th)).length:Int) - 1)=a:=by
 rw [th_set h0 h1]; exact ans_last
theorem ans_e (h0:0<=th)(h1:th<(ts.length:Int)):AnsV.e (ansA (Th.dn (thA (List.set ts (Int.toNat th) (Th.mk st b0 b1 lg lf pd wt (dn++[(AnsV.mk e v yes)]))) th)) (((Th.dn (thA (List.set ts (Int.toNat th) (Th.mk st b0 b1 lg lf pd wt (dn++[(AnsV.mk e v yes)]))) th)).length:Int) - 1))=e:=by rw [ans_all h0 h1]
theorem ans_v (h0:0<=th)(h1:th<(ts.length:Int)):AnsV.v (ansA (Th.dn (thA (List.set ts (Int.toNat th) (Th.mk st b0 b1 lg lf pd wt (dn++[(AnsV.mk e v yes)]))) th)) (((Th.dn (thA (List.set ts (Int.toNat th) (Th.mk st b0 b1 lg lf pd wt (dn++[(AnsV.mk e v yes)]))) th)).length:Int) - 1))=v:=by rw [ans_all h0 h1]
theorem ans_y (h0:0<=th)(h1:th<(ts.length:Int)):AnsV.y (ansA (Th.dn (thA (List.set ts (Int.toNat th) (Th.mk st b0 b1 lg lf pd wt (dn++[(AnsV.mk e v yes)]))) th)) (((Th.dn (thA (List.set ts (Int.toNat th) (Th.mk st b0 b1 lg lf pd wt (dn++[(AnsV.mk e v yes)]))) th)).length:Int) - 1))=yes:=by rw [ans_all h0 h1]
theorem ths_set {n:Nat}(h:Ths ts)(hT:ThOk T):Ths (List.set ts n T):=fun y hy=>by
 rcases List.mem_or_eq_of_mem_set hy with h1 | rfl
 ·exact h y h1
 ·exact hT
theorem thg_at (h:Thg ts)(n:Int):((Th.dn (thA ts n)).length:Int) * 24<=140737488351232:=(getD_in h (by simp) _:_/\_).1
theorem th_next (h:ThOk E)(h1 : -9223372036854775808<=e/\e<=9223372036854775807)(h2:0<=v/\v<=18446744073709551615)(h3:((Th.dn E).length:Int) * 24<=140737488351232):ThOk (Th.mk (Th.st E) (Th.b0 E) (Th.b1 E) (Th.lg E) (Th.lf E) (Th.pd E) (Th.wt E) ((Th.dn E)++[(AnsV.mk e v yes)])):=by
 obtain ⟨g1,g2,g3,g4,g5,g6,g7,g8,g9,g10,g11,g12⟩:=h
 refine ⟨g1,g2,g3,g4,g5,g6,g7,g8,g9,g10,g11.app (fun x hx=>?_),?_⟩
 ·rw [List.mem_singleton.1 hx]; exact ⟨h1,h2⟩
 ·simp; omega
theorem th_next1 (h:ThOk E)(h1 : -9223372036854775808<=e/\e<=9223372036854775807)(h2:0<=v/\v<=18446744073709551615)(h3:((Th.dn E).length:Int) * 24<=140737488351232):ThOk (Th.mk (Th.st E) (Th.b0 E) (Th.b1 E) (Th.lg E) ((Th.lf E).drop 1) (Th.pd E) (Th.wt E) ((Th.dn E)++[(AnsV.mk e v yes)])):=by
 obtain ⟨g1,g2,g3,g4,g5,g6,g7,g8,g9,g10,g11,g12⟩:=th_next (yes:=yes) h h1 h2 h3
 refine ⟨g1,g2,g3,g4,g5,g6,g7.drop 1,?_,g9,g10,g11,g12⟩
 simp only [List.length_drop] at *; omega
end
abbrev sT (x:List Th):SV:=.sl false 8 (x.map thS)
abbrev sE (x:List Ent):SV:=.sl false 2 (x.map entS)
abbrev sO (x:List OpV):SV:=.sl false 8 (x.map opS)
abbrev sA (x:List AnsV):SV:=.sl false 3 (x.map ansS)
abbrev s64 (x:List Int):SV:=.sl false 1 (x.map (SV.int .u64))
abbrev sN (x:List Int):SV:=.sl false 1 (x.map (SV.int .i64))
abbrev hpr (W:Int)(xs ys:List Int)(f0 f1 f2 t0 t1 t2 sz lm:Int)(ts:List Th)(ph scn fl:Int)(os:List Int)(brk:Int)(r:List SV):List SV :=
 .int .i64 W :: s64 xs :: s64 ys :: .int .i64 f0 :: .int .i64 f1 :: .int .i64 f2 :: .int .i64 t0 :: .int .i64 t1 :: .int .i64 t2 :: .int .i64 sz :: .int .i64 lm :: sT ts :: .int .i64 ph :: .int .i64 scn :: .int .i64 fl :: sN os :: .int .i64 brk :: r
abbrev hp (W:Int)(xs ys:List Int)(f0 f1 f2 t0 t1 t2 sz lm:Int)(ts:List Th)(ph scn fl:Int)(os:List Int)(brk:Int):List SV:=hpr W xs ys f0 f1 f2 t0 t1 t2 sz lm ts ph scn fl os brk []
abbrev tcsr (st:List Int)(b0 b1:Int)(lg:List Ent)(lf:List OpV)(pd:List Ent)(wt:Bool)(dn:List AnsV)(r:List SV):List SV:=s64 st :: .int .i64 b0 :: .int .i64 b1 :: sE lg :: sO lf :: sE pd :: .bool wt :: sA dn :: r
abbrev tcs (st:List Int)(b0 b1:Int)(lg:List Ent)(lf:List OpV)(pd:List Ent)(wt:Bool)(dn:List AnsV):List SV:=tcsr st b0 b1 lg lf pd wt dn []
abbrev tcr (E:Th)(r:List SV):List SV:=tcsr E.st E.b0 E.b1 E.lg E.lf E.pd E.wt E.dn r
abbrev tc (E:Th):List SV:=tcr E []
abbrev oc (o:OpV):List SV:=[.int .i64 o.k,.int .i64 o.h,.int .i64 o.i,.int .i64 o.j,.int .u64 o.v,.int .i64 o.t,.int .i64 o.l,.int .u64 o.m]
abbrev zh:List SV:=[.int .i64 0,.nils,.nils,.int .i64 0,.int .i64 0,.int .i64 0,.int .i64 0,.int .i64 0,.int .i64 0,.int .i64 0,.int .i64 0,.nils,.int .i64 0,.int .i64 0,.int .i64 0,.nils,.int .i64 0]
abbrev o0 (ts:List Th)(th:Int):OpV:=opA (Th.lf (thA ts th)) 0
abbrev tsh:List Th:=[(Th.mk [] 0 0 [] [(OpV.mk 11 0 0 0 0 0 0 0)] [] false [])]
abbrev tW (ts:List Th)(th:Int)(st:List Int)(p q:Int)(pd:List Ent)(w:Bool):List Th:=List.set ts (Int.toNat th) (Th.mk st p q (Th.lg (thA ts th)) (Th.lf (thA ts th)) pd w (Th.dn (thA ts th)))
abbrev tD (ts:List Th)(th:Int)(st:List Int)(p q:Int)(pd:List Ent)(w:Bool)(e v:Int)(y:Bool):List Th:=List.set ts (Int.toNat th) (Th.mk st p q (Th.lg (thA ts th)) ((Th.lf (thA ts th)).drop 1) pd w ((Th.dn (thA ts th))++[(AnsV.mk e v y)]))
end Go.Proofs.YtmmfpkkamgapkaaGreat.X
