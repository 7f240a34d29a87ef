/- Words moved from one place to another,and a twin made. No program in sight. -/
import Derived.Test.YtmmfpkkamgapkaaGreatXq2
namespace Go.Proofs.YtmmfpkkamgapkaaGreat.X
open Go Go.RowKit
set_option linter.unusedVariables false
theorem sseti {P:Program}{N:Nat}{ops:Array Oper}{sg:List (Mem×Nat)}{ws:List Nat}{bf:List (Nat×List Nat)}{i:Nat}{K:Fr->Prop}{fr:Fr}(d:Nat){k:IntKind}{x y:Int}(hd:fnd fr d=some (.int k x))(e:x=y)(h:SO P N ops sg ws bf i K ((d,.int k y) :: fr)):SO P N ops sg ws bf i K fr:=by
 subst e
 obtain ⟨ss,fr2,h1,h2,h3⟩:=h
 have hsame:∀ t,fnd ((d,.int k x) :: fr) t=fnd fr t:=fun t=>by
  rw [fnd_cons]
  split
  ·rename_i e; subst e; exact hd.symm
  ·rfl
 exact ⟨ss,fr2,h1.congr hsame,fun t s h=>by rw [<- lexFr_congr _ ss hsame t]; exact h2 t s h,h3⟩
def spl (xs:List Int)(p:Int)(zs:List Int):List Int:=xs.take p.toNat++zs++xs.drop (p.toNat + zs.length)
theorem U64s.spl {xs zs:List Int}(h:U64s xs)(h':U64s zs)(p:Int):U64s (spl xs p zs):=((h.take _).append h').append (h.drop _)
theorem ix_spl_out {xs zs:List Int}{p i:Int}(h0:0<=p)(h:p.toNat + zs.length<=xs.length)(hi:0<=i)(h1:i<p\/p + (zs.length:Int)<=i):ix (spl xs p zs) i=ix xs i:=by
 have hl:(xs.take p.toNat).length=p.toNat:=by simp; omega
 unfold spl
 by_cases h2:i<p
 ·rw [List.append_assoc,ix_append1 hi (by rw [hl]; omega)]
  unfold ix
  rw [List.getD_eq_getElem?_getD,List.getD_eq_getElem?_getD,List.getElem?_take_of_lt om]
 ·have hl2:(xs.take p.toNat++zs).length=p.toNat + zs.length:=by rw [List.length_append,hl]
  rw [ix_append2 (by rw [hl2]; omega),hl2]
  unfold ix
  rw [List.getD_eq_getElem?_getD,List.getD_eq_getElem?_getD,List.getElem?_drop]
  congr 2; omega
def seg (xs:List Int)(p n:Int):List Int:=(xs.take (Int.toNat (p + n))).drop (Int.toNat p)
theorem len_seg {xs:List Int}{p n:Int}(h0:0<=p)(hn:0<=n)(h:p + n<=(xs.length:Int)):((seg xs p n).length:Int)=n:=by simp [seg]; omega
theorem U64s.seg {xs:List Int}(h:U64s xs)(p n:Int):U64s (seg xs p n):=(h.take _).drop _
def mvx (xs ys:List Int)(a c n:Int):List Int:=if c / 4294967296=1 then spl xs (c % 4294967296) (seg (if a / 4294967296=1 then xs else ys) (a % 4294967296) n) else xs
def mvy (xs ys:List Int)(a c n:Int):List Int:=if c / 4294967296=1 then ys else spl ys (c % 4294967296) (seg (if a / 4294967296=1 then xs else ys) (a % 4294967296) n)
section
variable {W:Int} {xs ys:List Int} {a c n:Int}
end
theorem ldw_mv {W:Int}{xs ys:List Int}{a c n d:Int}(h1:(xs.length:Int)=W)(h2:(ys.length:Int)=W)(hn:0<=n)(ha:a % 4294967296 + n<=W)(hc:1<=c / 4294967296/\c / 4294967296<=2/\c % 4294967296 + n<=W)(hW:W<=4096)(hd:1<=d / 4294967296/\d / 4294967296<=2)(ho:d<c\/c + n<=d) :
  ldw (mvx xs ys a c n) (mvy xs ys a c n) d=ldw xs ys d:=by
 have hl:((seg (if a / 4294967296=1 then xs else ys) (a % 4294967296) n).length:Int)=n:=by split <;> exact len_seg om hn om
 unfold mvx mvy
 by_cases h:c / 4294967296=1
 ·rw [if_pos h,if_pos h]
  by_cases k:d / 4294967296=1
  ·rw [ldw_1 k,ldw_1 k,ix_spl_out om om om om]
  ·rw [ldw_2 k,ldw_2 k]
 ·rw [if_neg h,if_neg h]
  by_cases k:d / 4294967296=1
  ·rw [ldw_1 k,ldw_1 k]
  ·rw [ldw_2 k,ldw_2 k,ix_spl_out om om om om]
def tX (xs ys:List Int)(a c n:Int):List Int:=stx (stx (mvx xs ys a c n) (c + 1) 0) (a + 1) c
def tY (xs ys:List Int)(a c n:Int):List Int:=sty (sty (mvy xs ys a c n) (c + 1) 0) (a + 1) c
section
variable {W:Int} {xs ys:List Int} {a c n d:Int}
theorem tw_pre (h1:(xs.length:Int)=W)(h2:(ys.length:Int)=W)(hn:2<=n)(ha:a % 4294967296 + n<=W)(hc:1<=c / 4294967296/\c / 4294967296<=2/\c % 4294967296 + n<=W)(hW:W<=4096)(hd:1<=d / 4294967296/\d / 4294967296<=2)(ho:d<c\/c + n<=d) :
  ldw (stx (mvx xs ys a c n) (c + 1) 0) (sty (mvy xs ys a c n) (c + 1) 0) d=ldw xs ys d :=
 (ldw_other 0 om hd om).trans (ldw_mv h1 h2 om ha hc hW hd ho)
theorem tw_d (h1:(xs.length:Int)=W)(h2:(ys.length:Int)=W)(hn:2<=n)(ha:1<=a / 4294967296/\a / 4294967296<=2/\a % 4294967296 + n<=W)(hc:1<=c / 4294967296/\c / 4294967296<=2/\c % 4294967296 + n<=W)(hW:W<=4096)(hd:1<=d / 4294967296/\d / 4294967296<=2) :
  ldw (tX xs ys a c n) (tY xs ys a c n) d=ldw xs ys d\/d=a + 1\/(c<=d/\d<c + n):=by
 by_cases e:d=a + 1
 ·exact .inr (.inl e)
 ·by_cases k:c<=d/\d<c + n
  ·exact .inr (.inr k)
  ·exact .inl ((ldw_other c om hd e).trans (tw_pre h1 h2 hn ha.2.2 hc hW hd om))
end
end Go.Proofs.YtmmfpkkamgapkaaGreat.X
