/- Objects in memory,as rows of numbers: what is put,what is wrong at an address,and what is read behind both. No program in sight. -/
import Derived.Test.YtmmfpkkamgapkaaGreatXm3
namespace Go.Proofs.YtmmfpkkamgapkaaGreat.X
open Go Go.RowKit
def px (xs:List Int)(a t l m:Int):List Int:=zx (stx xs a (t * 72057594037927936 + l * 4294967296 + m)) a (if t=255 then 0 else (l + 1).toNat)
def py (ys:List Int)(a t l m:Int):List Int:=zy (sty ys a (t * 72057594037927936 + l * 4294967296 + m)) a (if t=255 then 0 else (l + 1).toNat)
theorem len_px (xs:List Int)(a t l m:Int):(px xs a t l m).length=xs.length:=by unfold px; rw [len_zx,len_stx]
theorem len_py (xs:List Int)(a t l m:Int):(py xs a t l m).length=xs.length:=by unfold py; rw [len_zy,len_sty]
theorem U64s.px {xs:List Int}(h:U64s xs)(a:Int){t l m:Int}(hv:0<=t * 72057594037927936 + l * 4294967296 + m/\t * 72057594037927936 + l * 4294967296 + m<=18446744073709551615):U64s (px xs a t l m):=(h.stx a hv).zx a _
theorem U64s.py {xs:List Int}(h:U64s xs)(a:Int){t l m:Int}(hv:0<=t * 72057594037927936 + l * 4294967296 + m/\t * 72057594037927936 + l * 4294967296 + m<=18446744073709551615):U64s (py xs a t l m):=(h.sty a hv).zy a _
theorem px_eq {xs:List Int}{a t l m i:Int}(h1:t=255->i=1)(h2:t≠255->i=l + 2):zx (stx xs a (t * 72057594037927936 + l * 4294967296 + m)) a (i - 1).toNat=px xs a t l m:=by
 unfold px
 by_cases h:t=255
 ·rw [if_pos h,h1 h]; rfl
 ·rw [if_neg h,h2 h]; congr 2; omega
theorem py_eq {ys:List Int}{a t l m i:Int}(h1:t=255->i=1)(h2:t≠255->i=l + 2):zy (sty ys a (t * 72057594037927936 + l * 4294967296 + m)) a (i - 1).toNat=py ys a t l m:=by
 unfold py
 by_cases h:t=255
 ·rw [if_pos h,h1 h]; rfl
 ·rw [if_neg h,h2 h]; congr 2; omega
theorem px_fill {xs:List Int}{a t l m:Int}(h:t=255):stx xs a (t * 72057594037927936 + l * 4294967296 + m)=px xs a t l m:=by unfold px; rw [if_pos h]; rfl
theorem py_fill {xs:List Int}{a t l m:Int}(h:t=255):sty xs a (t * 72057594037927936 + l * 4294967296 + m)=py xs a t l m:=by unfold py; rw [if_pos h]; rfl
theorem zx_nx {xs:List Int}{a b:Int}{n k:Nat}(hk:k=n + 1)(hb:b=a + ((n:Int) + 1)):stx (zx xs a n) b 0=zx xs a k:=by subst hk hb; rfl
theorem zy_nx {xs:List Int}{a b:Int}{n k:Nat}(hk:k=n + 1)(hb:b=a + ((n:Int) + 1)):sty (zy xs a n) b 0=zy xs a k:=by subst hk hb; rfl
def oErr (W:Int)(xs ys:List Int)(a:Int):Int :=
 if ¬ (1<=a / 4294967296/\a / 4294967296<=2/\a % 4294967296<W) then 2
 else if ¬ ((ldw xs ys a / 72057594037927936=255/\0<=(ldw xs ys a / 4294967296) % 16777216/\(ldw xs ys a / 4294967296) % 16777216<=65535/\ldw xs ys a % 4294967296=0)\/(1<=ldw xs ys a / 72057594037927936/\ldw xs ys a / 72057594037927936<=200/\0<=(ldw xs ys a / 4294967296) % 16777216/\(ldw xs ys a / 4294967296) % 16777216<=16/\ldw xs ys a % 4294967296<2 ^ ((ldw xs ys a / 4294967296) % 16777216).toNat/\ldw xs ys a % 4294967296<65536)) then 10
 else if ¬ ((ldw xs ys a / 72057594037927936=255/\a % 4294967296 + (ldw xs ys a / 4294967296) % 16777216 + 1<=W)\/(ldw xs ys a / 72057594037927936≠255/\a % 4294967296 + (ldw xs ys a / 4294967296) % 16777216 + 2<=W)) then 2
 else 0
theorem oErr_ok (W:Int)(xs ys:List Int)(a:Int)(h:oErr W xs ys a=0):(1<=a / 4294967296/\a / 4294967296<=2/\a % 4294967296<W) /\
  ((ldw xs ys a / 72057594037927936=255/\0<=(ldw xs ys a / 4294967296) % 16777216/\(ldw xs ys a / 4294967296) % 16777216<=65535/\ldw xs ys a % 4294967296=0)\/(1<=ldw xs ys a / 72057594037927936/\ldw xs ys a / 72057594037927936<=200/\0<=(ldw xs ys a / 4294967296) % 16777216/\(ldw xs ys a / 4294967296) % 16777216<=16/\ldw xs ys a % 4294967296<2 ^ ((ldw xs ys a / 4294967296) % 16777216).toNat/\ldw xs ys a % 4294967296<65536)) /\
  ((ldw xs ys a / 72057594037927936=255/\a % 4294967296 + (ldw xs ys a / 4294967296) % 16777216 + 1<=W)\/(ldw xs ys a / 72057594037927936≠255/\a % 4294967296 + (ldw xs ys a / 4294967296) % 16777216 + 2<=W)):=by
 unfold oErr at h
 split at h
 ·omega
 ·split at h
  ·omega
  ·split at h
   ·omega
   ·rename_i h1 h2 h3
    exact ⟨Decidable.not_not.1 h1,Decidable.not_not.1 h2,Decidable.not_not.1 h3⟩
theorem oErr_1 {W:Int}{xs ys:List Int}{a:Int}(h:¬ (1<=a / 4294967296/\a / 4294967296<=2/\a % 4294967296<W)):oErr W xs ys a=2:=by
 unfold oErr; rw [if_pos h]
theorem oErr_2 {W:Int}{xs ys:List Int}{a:Int}(h:1<=a / 4294967296/\a / 4294967296<=2/\a % 4294967296<W)
  (h2:¬ ((ldw xs ys a / 72057594037927936=255/\0<=(ldw xs ys a / 4294967296) % 16777216/\(ldw xs ys a / 4294967296) % 16777216<=65535/\ldw xs ys a % 4294967296=0)\/(1<=ldw xs ys a / 72057594037927936/\ldw xs ys a / 72057594037927936<=200/\0<=(ldw xs ys a / 4294967296) % 16777216/\(ldw xs ys a / 4294967296) % 16777216<=16/\ldw xs ys a % 4294967296<2 ^ ((ldw xs ys a / 4294967296) % 16777216).toNat/\ldw xs ys a % 4294967296<65536))):oErr W xs ys a=10:=by
 unfold oErr; rw [if_neg (Decidable.not_not.2 h),if_pos h2]
theorem oErr_3 {W:Int}{xs ys:List Int}{a:Int}(h:1<=a / 4294967296/\a / 4294967296<=2/\a % 4294967296<W)
  (h2:(ldw xs ys a / 72057594037927936=255/\0<=(ldw xs ys a / 4294967296) % 16777216/\(ldw xs ys a / 4294967296) % 16777216<=65535/\ldw xs ys a % 4294967296=0)\/(1<=ldw xs ys a / 72057594037927936/\ldw xs ys a / 72057594037927936<=200/\0<=(ldw xs ys a / 4294967296) % 16777216/\(ldw xs ys a / 4294967296) % 16777216<=16/\ldw xs ys a % 4294967296<2 ^ ((ldw xs ys a / 4294967296) % 16777216).toNat/\ldw xs ys a % 4294967296<65536))
  (h3:¬ ((ldw xs ys a / 72057594037927936=255/\a % 4294967296 + (ldw xs ys a / 4294967296) % 16777216 + 1<=W)\/(ldw xs ys a / 72057594037927936≠255/\a % 4294967296 + (ldw xs ys a / 4294967296) % 16777216 + 2<=W))):oErr W xs ys a=2:=by
 unfold oErr; rw [if_neg (Decidable.not_not.2 h),if_neg (Decidable.not_not.2 h2),if_pos h3]
theorem oErr_0 {W:Int}{xs ys:List Int}{a:Int}(h:1<=a / 4294967296/\a / 4294967296<=2/\a % 4294967296<W)
  (h2:(ldw xs ys a / 72057594037927936=255/\0<=(ldw xs ys a / 4294967296) % 16777216/\(ldw xs ys a / 4294967296) % 16777216<=65535/\ldw xs ys a % 4294967296=0)\/(1<=ldw xs ys a / 72057594037927936/\ldw xs ys a / 72057594037927936<=200/\0<=(ldw xs ys a / 4294967296) % 16777216/\(ldw xs ys a / 4294967296) % 16777216<=16/\ldw xs ys a % 4294967296<2 ^ ((ldw xs ys a / 4294967296) % 16777216).toNat/\ldw xs ys a % 4294967296<65536))
  (h3:(ldw xs ys a / 72057594037927936=255/\a % 4294967296 + (ldw xs ys a / 4294967296) % 16777216 + 1<=W)\/(ldw xs ys a / 72057594037927936≠255/\a % 4294967296 + (ldw xs ys a / 4294967296) % 16777216 + 2<=W)):oErr W xs ys a=0:=by
 unfold oErr; rw [if_neg (Decidable.not_not.2 h),if_neg (Decidable.not_not.2 h2),if_neg (Decidable.not_not.2 h3)]
theorem oErr_no (W:Int)(xs ys:List Int)(a:Int)(h:oErr W xs ys a≠0):oErr W xs ys a=2\/oErr W xs ys a=10:=by
 unfold oErr at h ⊢
 split
 ·exact .inl rfl
 ·split
  ·exact .inr rfl
  ·split
   ·exact .inl rfl
   ·rename_i h1 h2 h3; rw [if_neg h1,if_neg h2,if_neg h3] at h; exact absurd rfl h
theorem ldw_pa {W:Int}{xs ys:List Int}{a t l m:Int}(hx:(xs.length:Int)=W)(hy:(ys.length:Int)=W)(hW:W<=4096)(h:1<=a / 4294967296/\a / 4294967296<=2/\a % 4294967296<W)(hl:0<=l)
  (hf:(t=255/\a % 4294967296 + l + 1<=W)\/(t≠255/\a % 4294967296 + l + 2<=W)):ldw (px xs a t l m) (py ys a t l m) a=t * 72057594037927936 + l * 4294967296 + m:=by
 unfold px py
 have hk:a % 4294967296 + ((if t=255 then 0 else (l + 1).toNat:Nat):Int)<W:=by split <;> omega
 rw [ldw_zxo om om om,ldw_same _ om om om rfl]
theorem ldw_pi {W:Int}{xs ys:List Int}{a t l m b:Int}(hx:(xs.length:Int)=W)(hy:(ys.length:Int)=W)(hW:W<=4096)(h:1<=a / 4294967296/\a / 4294967296<=2/\a % 4294967296<W)(hl:0<=l)
  (ht:t≠255) (hf:a % 4294967296 + l + 2<=W) (h1:a<b) (h2:b<a + l + 2):ldw (px xs a t l m) (py ys a t l m) b=0:=by
 unfold px py
 rw [if_neg ht]
 exact ldw_zxi (W:=W) (by rw [len_stx]; exact hx) (by rw [len_sty]; exact hy) om om om om om om
theorem ldw_po {W:Int}{xs ys:List Int}{a t l m b:Int}(hx:(xs.length:Int)=W)(hy:(ys.length:Int)=W)(hW:W<=4096)(h:1<=a / 4294967296/\a / 4294967296<=2/\a % 4294967296<W)(hl:0<=l)
  (hf:(t=255/\a % 4294967296 + l + 1<=W)\/(t≠255/\a % 4294967296 + l + 2<=W)) (hb:1<=b / 4294967296/\b / 4294967296<=2) (ho:b<a\/(t=255/\a + l + 1<=b)\/(t≠255/\a + l + 2<=b)):ldw (px xs a t l m) (py ys a t l m) b=ldw xs ys b:=by
 unfold px py
 have hk:a % 4294967296 + ((if t=255 then 0 else (l + 1).toNat:Nat):Int)<W:=by split <;> omega
 have hk2:b<=a\/a + ((if t=255 then 0 else (l + 1).toNat:Nat):Int)<b:=by split <;> omega
 rw [ldw_zxo hb om hk2]
 by_cases e:b=a
 ·
  exfalso; omega
 ·rw [ldw_other _ om hb e]
theorem oErr_p {W:Int}{xs ys:List Int}{a t l m:Int}(hx:(xs.length:Int)=W)(hy:(ys.length:Int)=W)(hW:W<=4096)(h:1<=a / 4294967296/\a / 4294967296<=2/\a % 4294967296<W)(hm:0<=m)
  (hh:(t=255/\0<=l/\l<=65535/\m=0)\/(1<=t/\t<=200/\0<=l/\l<=16/\m<2 ^ l.toNat/\m<65536))
  (hf:(t=255/\a % 4294967296 + l + 1<=W)\/(t≠255/\a % 4294967296 + l + 2<=W)):oErr W (px xs a t l m) (py ys a t l m) a=0:=by
 have e:=ldw_pa (m:=m) hx hy hW h om hf
 have e1:ldw (px xs a t l m) (py ys a t l m) a / 72057594037927936=t:=by rw [e]; omega
 have e2:(ldw (px xs a t l m) (py ys a t l m) a / 4294967296) % 16777216=l:=by rw [e]; omega
 have e3:ldw (px xs a t l m) (py ys a t l m) a % 4294967296=m:=by rw [e]; omega
 refine oErr_0 h ?_ ?_
 ·rw [e1,e2,e3]; exact hh
 ·rw [e1,e2]; exact hf
theorem put_ok (W:Int)(xs ys:List Int)(a t l m:Int)(h1:(xs.length:Int)=W)(h2:(ys.length:Int)=W)(h3:U64s xs)(h4:U64s ys)(hW:W<=4096)(ha:1<=a / 4294967296/\a / 4294967296<=2/\a % 4294967296<W)(hm:0<=m)(hh:(t=255/\0<=l/\l<=65535/\m=0)\/(1<=t/\t<=200/\0<=l/\l<=16/\m<2 ^ l.toNat/\m<65536))(hf:(t=255/\a % 4294967296 + l + 1<=W)\/(t≠255/\a % 4294967296 + l + 2<=W)) :
  ((px xs a t l m).length:Int)=W/\((py ys a t l m).length:Int)=W/\U64s (px xs a t l m)/\U64s (py ys a t l m)/\ldw (px xs a t l m) (py ys a t l m) a=t * 72057594037927936 + l * 4294967296 + m/\oErr W (px xs a t l m) (py ys a t l m) a=0 :=
 ⟨by rw [len_px]; exact h1,by rw [len_py]; exact h2,h3.px _ om,h4.py _ om,ldw_pa h1 h2 hW ha om hf,oErr_p h1 h2 hW ha hm hh hf⟩
theorem fill_ok (W:Int)(xs ys:List Int)(a n:Int)(h1:(xs.length:Int)=W)(h2:(ys.length:Int)=W)(h3:U64s xs)(h4:U64s ys)(hW:W<=4096)(ha:1<=a / 4294967296/\a / 4294967296<=2/\a % 4294967296<W)(hn:1<=n/\n<=65536)(hf:a % 4294967296 + n<=W) :
  ((px xs a 255 (n - 1) 0).length:Int)=W/\((py ys a 255 (n - 1) 0).length:Int)=W/\U64s (px xs a 255 (n - 1) 0)/\U64s (py ys a 255 (n - 1) 0)/\ldw (px xs a 255 (n - 1) 0) (py ys a 255 (n - 1) 0) a=255 * 72057594037927936 + (n - 1) * 4294967296/\oErr W (px xs a 255 (n - 1) 0) (py ys a 255 (n - 1) 0) a=0:=by
 obtain ⟨g1,g2,g3,g4,g5,g6⟩:=put_ok W xs ys a 255 (n - 1) 0 h1 h2 h3 h4 hW ha om om om
 exact ⟨g1,g2,g3,g4,om,g6⟩
theorem oErr_cong {W:Int}{xs ys us vs:List Int}{a:Int}(h:ldw xs ys a=ldw us vs a):oErr W xs ys a=oErr W us vs a:=by unfold oErr; rw [h]
def rtx (xs:List Int)(s p q:Int):List Int:=if p<q then px xs ((s + 1) * 4294967296 + p) 255 (q - p - 1) 0 else xs
def rty (ys:List Int)(s p q:Int):List Int:=if p<q then py ys ((s + 1) * 4294967296 + p) 255 (q - p - 1) 0 else ys
theorem rtx_p {xs:List Int}{s p q:Int}(h:p<q):px xs ((s + 1) * 4294967296 + p) 255 (q - p - 1) 0=rtx xs s p q:=by unfold rtx; rw [if_pos h]
theorem rty_p {xs:List Int}{s p q:Int}(h:p<q):py xs ((s + 1) * 4294967296 + p) 255 (q - p - 1) 0=rty xs s p q:=by unfold rty; rw [if_pos h]
theorem rtx_0 {xs:List Int}{s p q:Int}(h:¬ p<q):xs=rtx xs s p q:=by unfold rtx; rw [if_neg h]
theorem rty_0 {xs:List Int}{s p q:Int}(h:¬ p<q):xs=rty xs s p q:=by unfold rty; rw [if_neg h]
theorem rt_ok (W:Int)(xs ys:List Int)(s p q:Int)(h1:(xs.length:Int)=W)(h2:(ys.length:Int)=W)(h3:U64s xs)(h4:U64s ys)(hW:16<=W/\W<=4096)(hp:(s=0\/s=1)/\0<=p/\p<=q/\q<=W) :
  ((rtx xs s p q).length:Int)=W/\((rty ys s p q).length:Int)=W/\U64s (rtx xs s p q)/\U64s (rty ys s p q):=by
 unfold rtx rty
 by_cases h:p<q
 ·rw [if_pos h,if_pos h]
  obtain ⟨g1,g2,g3,g4,_⟩:=fill_ok W xs ys ((s + 1) * 4294967296 + p) (q - p) h1 h2 h3 h4 om om om om
  exact ⟨g1,g2,g3,g4⟩
 ·rw [if_neg h,if_neg h]; exact ⟨h1,h2,h3,h4⟩
end Go.Proofs.YtmmfpkkamgapkaaGreat.X
