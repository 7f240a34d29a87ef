/- A space,object by object: what is told of it. No program in sight. -/
import Derived.Test.YtmmfpkkamgapkaaGreatXq2
namespace Go.Proofs.YtmmfpkkamgapkaaGreat.X
open Go Go.RowKit
set_option linter.unusedVariables false
def objW (xs ys:List Int)(a:Int):Int:=if ldw xs ys a / 72057594037927936=255 then (ldw xs ys a / 4294967296) % 16777216 + 1 else (ldw xs ys a / 4294967296) % 16777216 + 2
def wl (W:Int)(xs ys:List Int)(s lim:Int):Nat->Int->Int×List Int
 | 0,_=>(0,[])
 | k + 1,at'=>if lim<=at' then (0,[]) else if oErr W xs ys ((s + 1) * 4294967296 + at')≠0 then (oErr W xs ys ((s + 1) * 4294967296 + at'),[])
  else if lim<at' + objW xs ys ((s + 1) * 4294967296 + at') then (10,[])
  else ((wl W xs ys s lim k (at' + objW xs ys ((s + 1) * 4294967296 + at'))).1,((s + 1) * 4294967296 + at') :: (wl W xs ys s lim k (at' + objW xs ys ((s + 1) * 4294967296 + at'))).2)
def wf (W:Int)(xs ys:List Int)(s lim i:Int):Int×List Int:=wl W xs ys s lim (lim - i).toNat i
section
variable {W:Int} {xs ys:List Int} {s lim i:Int}
variable {E:Int} {A out:List Int}
end
theorem take_next {xs:List Int}{i:Int}(h0:0<=i)(h:i<(xs.length:Int)):xs.take (Int.toNat (i + 1))=xs.take (Int.toNat i)++[ix xs i]:=by
 have hn:(i + 1).toNat=i.toNat + 1:=om
 have h1:i.toNat<xs.length:=om
 rw [hn,List.take_add_one,List.getElem?_eq_getElem h1]
 simp [ix,h1]
end Go.Proofs.YtmmfpkkamgapkaaGreat.X
