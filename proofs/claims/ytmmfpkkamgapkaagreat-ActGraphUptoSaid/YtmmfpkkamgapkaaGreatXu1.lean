/- Rows of structs and rows of rows: how they stand as symbolic values; whether a slice is nil. -/
import Derived.Test.YtmmfpkkamgapkaaGreatXm3
namespace Go.Proofs.YtmmfpkkamgapkaaGreat.X
open Go Go.RowKit
abbrev Ent:=Int×Int
def entS (e:Ent):SV:=.agg [.int .u64 e.1,.int .i64 e.2]
def eO (xs:List Ent)(n:Int):Int:=(xs.getD n.toNat (0,0)).1
def eF (xs:List Ent)(n:Int):Int:=(xs.getD n.toNat (0,0)).2
def lg (L:List (List Ent))(n:Int):List Ent:=L.getD n.toNat []
def Ents (xs:List Ent):Prop:=∀ e∈xs,(0<=e.1/\e.1<=18446744073709551615)/\(-9223372036854775808<=e.2/\e.2<=9223372036854775807)
def Lgs (L:List (List Ent)):Prop:=∀ x∈L,Ents x/\(x.length:Int)<=8796093022208
section
variable {α:Type} {f:α->SV} {xs ys:List α}
theorem mapf_app:xs.map f++ys.map f=(xs++ys).map f:=by simp
theorem mapf_set {n:Nat}{v:α} : (xs.map f).set n (f v)=(xs.set n v).map f:=by simp [List.map_set]
theorem mapf_cut {n m:Nat} : ((xs.map f).take n).drop m=((xs.take n).drop m).map f:=by simp
theorem mapf_ne (h:0<(xs.length:Int)):xs.map f≠[]:=by
 intro e
 have:=congrArg List.length e
 simp at this; subst this; simp at h
end
theorem Ents.at {xs:List Ent}(h:Ents xs)(n:Int):(0<=eO xs n/\eO xs n<=18446744073709551615)/\(-9223372036854775808<=eF xs n/\eF xs n<=9223372036854775807):=by
 unfold eO eF
 rw [List.getD_eq_getElem?_getD]
 by_cases hn:n.toNat<xs.length
 ·rw [List.getElem?_eq_getElem hn]; exact h _ (List.getElem_mem hn)
 ·rw [List.getElem?_eq_none om]; simp
theorem Lgs.lg {L:List (List Ent)}(h:Lgs L)(n:Int):Ents (lg L n)/\((lg L n).length:Int)<=8796093022208:=by
 unfold X.lg
 rw [List.getD_eq_getElem?_getD]
 by_cases hn:n.toNat<L.length
 ·rw [List.getElem?_eq_getElem hn]; exact h _ (List.getElem_mem hn)
 ·rw [List.getElem?_eq_none om]; exact ⟨fun _ h=>(by cases h),by simp⟩
theorem Ents.app {xs ys:List Ent}(h:Ents xs)(k:Ents ys):Ents (xs++ys):=fun e he=>(List.mem_append.1 he).elim (h e) (k e)
theorem Ents.drop {xs:List Ent}(h:Ents xs)(n:Nat):Ents (xs.drop n):=fun e he=>h e (List.mem_of_mem_drop he)
theorem Ents.one {a i:Int}(h:0<=a/\a<=18446744073709551615)(k : -9223372036854775808<=i/\i<=9223372036854775807):Ents [(a,i)]:=fun e he=>by
 simp only [List.mem_singleton] at he; subst he; exact ⟨h,k⟩
theorem Lgs.two {x y:List Ent}(h:Ents x)(k:Ents y)(h2:(x.length:Int)<=8796093022208)(k2:(y.length:Int)<=8796093022208):Lgs [x,y]:=fun z hz=>by
 simp only [List.mem_cons,List.not_mem_nil,or_false] at hz
 rcases hz with rfl | rfl
 ·exact ⟨h,h2⟩
 ·exact ⟨k,k2⟩
section
variable {rd:Option Nat} {P:Program} {T:Tab} {N n0:Nat} {ops:Array Oper} {mem:Mem} {nx:Nat}
end
end Go.Proofs.YtmmfpkkamgapkaaGreat.X
