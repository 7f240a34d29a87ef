/- Small steps for printed proofs. -/
import Derived.Test.YtmmfpkkamgapkaaGreatXq
namespace Go.Proofs.YtmmfpkkamgapkaaGreat.X
open Go Go.RowKit
section
variable {rd:Option Nat} {P:Program} {N n0:Nat} {K:XE->St->Prop} {s:St}
theorem an {b:Code}(h:XW rd P N n0 b K s):andThen rd P N n0 b K .normal s:=h
theorem an_exit {b:Code}{i:Nat}(h:K (.exit i) s):andThen rd P N n0 b K (.exit i) s:=h
theorem an_goto {b:Code}{i:Nat}(h:K (.goto i) s):andThen rd P N n0 b K (.goto i) s:=h
theorem an_ret {b:Code}(h:K .ret s):andThen rd P N n0 b K .ret s:=h
theorem ib {id:Nat}(h:K .normal s):inBlock id K .normal s:=h
theorem ib_same {id:Nat}(h:K .normal s):inBlock id K (.exit id) s:=by simpa [inBlock] using h
theorem ib_exit {id i:Nat}(hi:Nat.beq i id=false)(h:K (.exit i) s):inBlock id K (.exit i) s:=by
 have:i≠id:=fun e=>by rw [e,Nat.beq_refl] at hi; cases hi
 simpa [inBlock,this] using h
theorem ib_ret {id:Nat}(h:K .ret s):inBlock id K .ret s:=h
section
variable {α:Type} {I:α->St} {μ:α->Nat} {x:α}
theorem ag (y:α)(h:Le N n0 s (I y))(hm:μ y<μ x):Again N n0 I μ x K .normal s:=⟨y,h,hm⟩
theorem ag_exit {i:Nat}(h:K (.exit i) s):Again N n0 I μ x K (.exit i) s:=h
theorem ag_ret (h:K .ret s):Again N n0 I μ x K .ret s:=h
theorem j0_goto {l:Nat}(y:α)(h:Le N n0 s (I y)):Jump0 N n0 l I K (.goto l) s:=⟨rfl,y,h⟩
theorem j0 {l:Nat}(h:K .normal s):Jump0 N n0 l I K .normal s:=h
theorem j0_ret {l:Nat}(h:K .ret s):Jump0 N n0 l I K .ret s:=h
theorem j1 {l:Nat}(h:K .normal s):Jump N n0 l I μ x K .normal s:=h
theorem j1_ret {l:Nat}(h:K .ret s):Jump N n0 l I μ x K .ret s:=h
end
end
theorem bk_ret {T:Tab}{rs:Array ResultVar}{R:SV->Prop}{s:St}(x y t:SV)(h1:xres T s rs=some x)(h2:pubS s.mem x=some y)(h3:WkD y t)(h4:R t):Back T rs R .ret s:=⟨x,y,t,h1,h2,h3,h4⟩
theorem i64_in {r:Int}(hr : -9223372036854775808<=r/\r<=9223372036854775807):IntKind.i64.wrap r=r:=IntWalk.i64_in r hr
theorem u64_in {r:Int}(hr:0<=r/\r<=18446744073709551615):IntKind.u64.wrap r=r:=IntWalk.u64_in r hr
theorem u64_eq {a r:Int}(h:a=r)(hr:0<=r/\r<=18446744073709551615):IntKind.u64.wrap a=r:=by rw [h]; exact u64_in hr
theorem i64_off {a r:Int}(h:a=r + 18446744073709551616\/a=r - 18446744073709551616)(hr : -9223372036854775808<=r/\r<=9223372036854775807):IntKind.i64.wrap a=r:=by
 rw [IntKind.wrap_i64]; omega
theorem tmod_eq {a b:Int}(h:0<=a):a.tmod b=a % b:=Int.tmod_eq_emod_of_nonneg h
theorem tdiv_eq {a b:Int}(h:0<=a):a.tdiv b=a / b:=Int.tdiv_eq_ediv_of_nonneg h
theorem div_le {a b:Int}(h:0<=a)(hb:0<b):0<=a / b/\a / b<=a:=⟨Int.ediv_nonneg h om,Int.ediv_le_self b h⟩
theorem u64_tdiv {a b:Int}(h:0<=a)(hb:0<b)(hr:a<=18446744073709551615):IntKind.u64.wrap (a.tdiv b)=a / b:=by
 rw [tdiv_eq h]; have:=div_le h hb; exact u64_in om
theorem shr_eq {a:Int}{n m:Nat}(h:2 ^ n=m):a.fdiv (2 ^ n)=a / (m:Int):=by
 subst h
 rw [Int.fdiv_eq_ediv_of_nonneg _ (Int.le_of_lt (Int.pow_pos (by decide)))]
 simp
theorem ofInt_toNat {a:Int}(h:0<=a)(h2:a<=18446744073709551615):(BitVec.ofInt 64 a).toNat=a.toNat:=by
 rw [BitVec.toNat_ofInt]
 have:a % (2 ^ 64:Nat)=a:=Int.emod_eq_of_lt h om
 rw [this]
theorem and_eq {a m:Int}(k:Nat)(M:Int)(hk:k<=63)(hM:M=((2 ^ k:Nat):Int))(hm:m=M - 1)(h:0<=a)(h2:a<=18446744073709551615):IntKind.u64.wrap (BitVec.ofInt 64 a &&& BitVec.ofInt 64 m).toNat=a % M:=by
 subst hM
 have h63:(2:Nat) ^ k<=2 ^ 63:=Nat.pow_le_pow_right (by decide) hk
 have hp:0<(2:Nat) ^ k:=Nat.pow_pos (by decide)
 have hm1:(BitVec.ofInt 64 m).toNat=2 ^ k - 1:=by
  rw [ofInt_toNat om om,hm]; omega
 have e:(BitVec.ofInt 64 a &&& BitVec.ofInt 64 m).toNat=a.toNat % 2 ^ k:=by
  rw [BitVec.toNat_and,hm1,ofInt_toNat h h2,Nat.and_two_pow_sub_one_eq_mod]
 rw [e]
 have h3:((a.toNat % 2 ^ k:Nat):Int)=a % ((2 ^ k:Nat):Int):=by
  rw [Int.natCast_emod,Int.toNat_of_nonneg h]
 rw [h3]
 have h4:=Int.emod_nonneg a (b:=((2 ^ k:Nat):Int)) om
 have h5:=Int.emod_lt_of_pos a (b:=((2 ^ k:Nat):Int)) om
 exact u64_in om
theorem or_eq {q b:Int}(k:Nat)(m:Int)(hm:m=((2 ^ k:Nat):Int))(hq:0<=q)(hb:0<=b)(hbk:b<m)(hr:q * m + b<=18446744073709551615):IntKind.u64.wrap (BitVec.ofInt 64 (q * m) ||| BitVec.ofInt 64 b).toNat=q * m + b:=by
 subst hm
 have hp:0<(2:Nat) ^ k:=Nat.pow_pos (by decide)
 have hqm:0<=q * ((2 ^ k:Nat):Int):=Int.mul_nonneg hq om
 obtain ⟨Q,rfl⟩:=Int.eq_ofNat_of_zero_le hq
 obtain ⟨B,rfl⟩:=Int.eq_ofNat_of_zero_le hb
 have e:(BitVec.ofInt 64 ((Q:Int) * ((2 ^ k:Nat):Int)) ||| BitVec.ofInt 64 (B:Int)).toNat=Q * 2 ^ k + B:=by
  rw [BitVec.toNat_or,ofInt_toNat hqm om,ofInt_toNat hb om]
  have hB:B<2 ^ k:=om
  have h1:((Q:Int) * ((2 ^ k:Nat):Int)).toNat=2 ^ k * Q:=by
   rw [<- Int.natCast_mul,Int.toNat_natCast,Nat.mul_comm]
  have h2:((B:Int)).toNat=B:=Int.toNat_natCast B
  rw [h1,h2,Nat.mul_comm Q,<- Nat.two_pow_add_eq_or_of_lt hB]
 rw [e]
 have h3:((Q * 2 ^ k + B:Nat):Int)=(Q:Int) * ((2 ^ k:Nat):Int) + (B:Int):=by
  rw [Int.natCast_add,Int.natCast_mul]
 rw [h3]
 exact u64_in om
end Go.Proofs.YtmmfpkkamgapkaaGreat.X
