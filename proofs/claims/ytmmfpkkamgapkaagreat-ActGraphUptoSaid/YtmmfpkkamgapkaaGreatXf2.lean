/- Floats that are whole numbers below 2^53: what is reckoned with them is exact. -/
import Derived.Test.YtmmfpkkamgapkaaGreatXu1
import Derived.Laws.NewFold
namespace Go.Proofs.YtmmfpkkamgapkaaGreat.X
open Go Go.RowKit
set_option linter.unusedVariables false
inductive Drs (w:World):World->Prop
 | refl:Drs w w
 | step {w':World} : Drs w w'->Drs w w'.drew
theorem Drs.trans {a b c:World}(h:Drs a b)(k:Drs b c):Drs a c:=by
 induction k with
 | refl=>exact h
 | step _ ih=>exact .step ih
theorem Drs.inv {Γ:Gh}{ρ:Env}{nx:Nat}{mem:Mem}{w w':World}(h:Drs w w')(hi:Inv Γ ρ nx mem w):Inv Γ ρ nx mem w':=by
 induction h with
 | refl=>exact hi
 | step _ ih=>exact ⟨ih.pub,ih.priv,ih.inj⟩
theorem Drs.stp {ρ:Env}{mem:Mem}{w w':World}(h:Drs w w'):Stp ρ mem w ρ mem w':=by
 induction h with
 | refl=>exact Stp.refl _ _ _
 | step _ ih=>exact ih.trans ⟨rfl,rfl,rfl,Nat.le_refl _,fun _ _ _=>rfl,fun b hb=>.inl hb⟩
def Gives {α:Type}(P:Program)(m:Sem α)(G:α->Prop):Prop:=∀ w,∃ v w',Drs w w'/\m.run P w = .ok v w'/\G v
section
variable {P:Program} {α β:Type}
theorem Gives.pure {v:α}{G:α->Prop}(h:G v):Gives P (Pure.pure v:Sem α) G:=fun w=>⟨v,w,.refl,by simp,h⟩
theorem Gives.bind {m:Sem α}{f:α->Sem β}{G:α->Prop}{H:β->Prop}(h:Gives P m G)(k:∀ v,G v->Gives P (f v) H):Gives P (m >>= f) H:=fun w=>by
 obtain ⟨v,w1,h1,h2,h3⟩:=h w
 obtain ⟨u,w2,k1,k2,k3⟩:=k v h3 w1
 exact ⟨u,w2,h1.trans k1,by rw [Sem.run_bind,h2,Result.andThen_ok,k2],k3⟩
theorem Gives.mono {m:Sem α}{G H:α->Prop}(h:Gives P m G)(k:∀ v,G v->H v):Gives P m H:=fun w=>by
 obtain ⟨v,w1,h1,h2,h3⟩:=h w
 exact ⟨v,w1,h1,h2,k v h3⟩
end
section
variable {rd:Option Nat} {P:Program} {N n0:Nat} {ops:Array Oper}
theorem fop_ {i:Nat}{K:St->Prop}{s:St}{o:Oper}{d:Nat}(ho:ops.toList[i]? = some o)(hg:gd ops s.fr o.guard=some true)(hd:o.dst=some d)(hdN:Nat.blt d N=true)(G:Value->Prop)
  (hrun:∀ Γ ρ w a,FrDen Γ ρ s.nx N s.fr a->∃ v w',Drs w w'/\(execOp a.eval o).run P w = .ok (.value v) w'/\G v)
  (hk:∀ v,G v->∃ sv,(∀ Γ ρ,Den Γ ρ sv v)/\(∀ n,sv.bd n=true)/\XOi rd P N n0 ops (i + 1) K ⟨(d,sv) :: s.fr,s.mem,s.nx⟩):XOi rd P N n0 ops i K s:=by
 unfold XOi
 rw [drop_cons ho]
 intro Γ ρ w a Q hn hok hQ
 obtain ⟨v,w',hdr,hrun,hG⟩:=hrun Γ ρ w a hok.frame
 obtain ⟨sv,hden,hbd,hx⟩:=hk v hG
 have hp:putS N s.fr o.dst sv=some ((d,sv) :: s.fr):=by simp only [putS,hd,hdN]
 refine wpListIn_step fun K' hK'=>?_
 rw [gd_sound hok.frame hg,if_pos rfl]
 refine ⟨fun _ _=>trivial,?_⟩
 rw [sem_round hrun (.inl rfl)]
 have hnx:Nxt n0 Γ ρ s w Γ ρ s w':=⟨hdr.stp,Gh.le_refl _,Env.same_refl _ _,hn,fun _ hb=>.inl hb⟩
 exact hK' _ _ (hx Γ ρ w' _ Q hn ⟨hdr.inv hok.inv,by rw [put_defers]; exact hok.marks.step hok.inv hdr.stp (Gh.le_refl _),putS_sound hp hok.frame (hden _ _) (hbd _)⟩ (fun Γ₂ ρ₂ s₂ w₂ a₂ g1 g2 g3=>hQ Γ₂ ρ₂ s₂ w₂ a₂ g1 (hnx.trans ⟨g2.stp,g2.le,g2.same,g2.nx,g2.new⟩) g3))
inductive FO
 | cv (s t:Nat) (x:SV) | ad (x y:SV) | mu (x y:SV) | cx (x y:SV) | re (x:SV) | im (x:SV)
def fIs (fr:Fr):Op->Option FO
 | .convert s t x=>some (.cv s t (evo fr x))
 | .binOp .add _ x y _=>some (.ad (evo fr x) (evo fr y))
 | .binOp .mul _ x y _=>some (.mu (evo fr x) (evo fr y))
 | .call { callee:=.builtin .complex,args:=⟨[x,y]⟩,argTypes:=_ }=>some (.cx (evo fr x) (evo fr y))
 | .call { callee:=.builtin .real,args:=⟨[x]⟩,argTypes:=_ }=>some (.re (evo fr x))
 | .call { callee:=.builtin .imag,args:=⟨[x]⟩,argTypes:=_ }=>some (.im (evo fr x))
 | _=>none
def fAt (N:Nat)(ops:Array Oper)(fr:Fr)(i:Nat):Option (FO×Nat):=match ops.toList[i]? with
 | some o=>match fIs fr o.op,gd ops fr o.guard,o.dst with
  | some fo,some true,some d=>match Nat.blt d N with
   | true=>some (fo,d)
   | false=>none
  | _,_,_=>none
 | none=>none
theorem fAt_spec {fr:Fr}{i:Nat}{fo:FO}{d:Nat}(h:fAt N ops fr i=some (fo,d)):∃ o,ops.toList[i]? = some o/\gd ops fr o.guard=some true/\o.dst=some d/\Nat.blt d N=true/\fIs fr o.op=some fo:=by
 unfold fAt at h
 split at h
 ·rename_i o ho
  split at h
  ·rename_i fo' d' h1 h2 h3
   split at h
   ·rename_i h4
    cases h
    exact ⟨o,ho,h2,h3,h4,h1⟩
   ·cases h
  ·cases h
 ·cases h
theorem cx_eq (ats:Array TypeId)(t:TypeId)(a b:Nat):Builtin.complex_ ats t #[.float .f64 a,.float .f64 b]=Pure.pure (.complex .f64 a b):=rfl
theorem re_eq (ats:Array TypeId)(t:TypeId)(a b:Nat):Builtin.real_ ats t #[.complex .f64 a b]=Pure.pure (.float .f64 a):=rfl
theorem im_eq (ats:Array TypeId)(t:TypeId)(a b:Nat):Builtin.imag_ ats t #[.complex .f64 a b]=Pure.pure (.float .f64 b):=rfl
theorem call2_run {e:Operand->Value}{o:Oper}{x y:Operand}{ats:Array TypeId}(ho:o.op = .call { callee:=.builtin .complex,args:=⟨[x,y]⟩,argTypes:=ats }){a b:Nat}(hx:e x = .float .f64 a)(hy:e y = .float .f64 b)(w:World):(execOp e o).run P w = .ok (.value (.complex .f64 a b)) w:=by
 simp [execOp,ho,resolve,invoke,builtin,cx_eq,hx,hy]
theorem call_re {e:Operand->Value}{o:Oper}{x:Operand}{ats:Array TypeId}(ho:o.op = .call { callee:=.builtin .real,args:=⟨[x]⟩,argTypes:=ats }){a b:Nat}(hx:e x = .complex .f64 a b)(w:World):(execOp e o).run P w = .ok (.value (.float .f64 a)) w:=by
 simp [execOp,ho,resolve,invoke,builtin,re_eq,hx]
theorem call_im {e:Operand->Value}{o:Oper}{x:Operand}{ats:Array TypeId}(ho:o.op = .call { callee:=.builtin .imag,args:=⟨[x]⟩,argTypes:=ats }){a b:Nat}(hx:e x = .complex .f64 a b)(w:World):(execOp e o).run P w = .ok (.value (.float .f64 b)) w:=by
 simp [execOp,ho,resolve,invoke,builtin,im_eq,hx]
variable {i:Nat} {K:St->Prop} {s:St} {d:Nat}
theorem raw_den {x:Operand}{fr:Fr}{v:Value}{Γ:Gh}{ρ:Env}{nx:Nat}{a:Act}(hf:FrDen Γ ρ nx N fr a)(h:evo fr x = .raw v):a.eval x=v:=by
 have:=(evo_den hf x).1
 rw [h] at this; simp only [Den] at this; exact this.1
theorem int_den {x:Operand}{fr:Fr}{k:IntKind}{n:Int}{Γ:Gh}{ρ:Env}{nx:Nat}{a:Act}(hf:FrDen Γ ρ nx N fr a)(h:evo fr x = .int k n):a.eval x = .int k n:=by
 have:=(evo_den hf x).1
 rw [h] at this; simpa only [Den] using this
theorem fop_cx {a b:Nat}(h:fAt N ops s.fr i=some (.cx (.raw (.float .f64 a)) (.raw (.float .f64 b)),d))(hk:XOi rd P N n0 ops (i + 1) K ⟨(d,.raw (.complex .f64 a b)) :: s.fr,s.mem,s.nx⟩):XOi rd P N n0 ops i K s:=by
 obtain ⟨o,h1,h2,h3,h4,h5⟩:=fAt_spec h
 refine fop_ h1 h2 h3 h4 (fun v=>v = .complex .f64 a b) (fun Γ ρ w e hf=>?_) (fun v hv=>by subst hv; exact ⟨.raw (.complex .f64 a b),fun _ _=>by simp only [Den]; exact ⟨trivial,rfl⟩,fun _=>rfl,hk⟩)
 unfold fIs at h5
 split at h5
 all_goals first | cases h5; done | skip
 rename_i x y ats hop
 simp only [Option.some.injEq,FO.cx.injEq] at h5
 exact ⟨_,w,.refl,call2_run hop (raw_den hf h5.1) (raw_den hf h5.2) w,rfl⟩
theorem fop_re {a b:Nat}(h:fAt N ops s.fr i=some (.re (.raw (.complex .f64 a b)),d))(hk:XOi rd P N n0 ops (i + 1) K ⟨(d,.raw (.float .f64 a)) :: s.fr,s.mem,s.nx⟩):XOi rd P N n0 ops i K s:=by
 obtain ⟨o,h1,h2,h3,h4,h5⟩:=fAt_spec h
 refine fop_ h1 h2 h3 h4 (fun v=>v = .float .f64 a) (fun Γ ρ w e hf=>?_) (fun v hv=>by subst hv; exact ⟨.raw (.float .f64 a),fun _ _=>by simp only [Den]; exact ⟨trivial,rfl⟩,fun _=>rfl,hk⟩)
 unfold fIs at h5
 split at h5
 all_goals first | cases h5; done | skip
 rename_i x ats hop
 simp only [Option.some.injEq,FO.re.injEq] at h5
 exact ⟨_,w,.refl,call_re hop (raw_den hf h5) w,rfl⟩
theorem fop_im {a b:Nat}(h:fAt N ops s.fr i=some (.im (.raw (.complex .f64 a b)),d))(hk:XOi rd P N n0 ops (i + 1) K ⟨(d,.raw (.float .f64 b)) :: s.fr,s.mem,s.nx⟩):XOi rd P N n0 ops i K s:=by
 obtain ⟨o,h1,h2,h3,h4,h5⟩:=fAt_spec h
 refine fop_ h1 h2 h3 h4 (fun v=>v = .float .f64 b) (fun Γ ρ w e hf=>?_) (fun v hv=>by subst hv; exact ⟨.raw (.float .f64 b),fun _ _=>by simp only [Den]; exact ⟨trivial,rfl⟩,fun _=>rfl,hk⟩)
 unfold fIs at h5
 split at h5
 all_goals first | cases h5; done | skip
 rename_i x ats hop
 simp only [Option.some.injEq,FO.im.injEq] at h5
 exact ⟨_,w,.refl,call_im hop (raw_den hf h5) w,rfl⟩
end
section
variable {rd:Option Nat} {P:Program} {N n0:Nat} {K:XE->St->Prop} {s:St} {α:Type} {I:α->St}
def Join (N n0:Nat)(I:α->St)(K:XE->St->Prop):XE->St->Prop
 | .normal,s=>∃ y,Le N n0 s (I y)
 | e,s=>K e s
theorem xw_join {x y:Code}(I:α->St)(h1:XW rd P N n0 x (Join N n0 I K) s)(h2:∀ v,XW rd P N n0 y K (I v)):XW rd P N n0 (.seq x y) K s :=
 xw_seq (xw_mono h1 fun e s' h=>by
  cases e with
  | normal=>obtain ⟨v,hle⟩:=h; exact xw_le hle (h2 v)
  | _=>exact h)
theorem jn (y:α)(h:Le N n0 s (I y)):Join N n0 I K .normal s:=⟨y,h⟩
end
section
open Ieee
theorem flog2 {n k:Nat}(h1:2 ^ k<=n)(h2:n<2 ^ (k + 1)):n.log2=k:=by
 have h0:n≠0:=by have:=Nat.two_pow_pos k; omega
 exact (Nat.log2_eq_iff h0).2 ⟨h1,h2⟩
theorem fcut0 (w:Toward)(neg:Bool)(n:Nat)(hw:w = .even\/w = .zero):w.cut neg n 0=n:=by
 unfold Toward.cut
 rcases hw with rfl | rfl <;> simp [Nat.mod_one]
theorem fcutk (w:Toward)(neg:Bool)(a k d:Nat)(hw:w = .even\/w = .zero)(h0:a≠0)(hd:d<=k):w.cut neg (a * 2 ^ k) d=a * 2 ^ (k - d):=by
 have h1:2 ^ k<=a * 2 ^ k:=Nat.le_mul_of_pos_left _ om
 have h2:k<=(a * 2 ^ k).log2:=(Nat.le_log2 (by have:=Nat.two_pow_pos k; omega)).2 h1
 have h3:min d ((a * 2 ^ k).log2 + 2)=d:=om
 have hp:=Nat.two_pow_pos d
 have h4:a * 2 ^ k=a * 2 ^ (k - d) * 2 ^ d:=by rw [Nat.mul_assoc,<- Nat.pow_add]; congr 2; omega
 unfold Toward.cut
 simp only [h3,Nat.one_shiftLeft]
 rw [h4,Nat.mul_mod_left,Nat.mul_div_cancel _ hp]
 rcases hw with rfl | rfl
 ·simp
 ·simp
abbrev FD:Ieee.Format:=double
theorem fread_of {w r:Nat}{neg:Bool}(h1:(w / 9223372036854775808 % 2 == 1)=neg)(h2:w % 9223372036854775808=r)(h3:4503599627370496<=r)(h4:r<2047 * 4503599627370496):FD.read w = .number neg (4503599627370496 + r % 4503599627370496) (-1074 + (r / 4503599627370496 - 1:Nat)):=by
 subst h1; subst h2
 have e1:FD.leastPlace = -1074:=rfl
 have e2:FD.infRung=2047 * 4503599627370496:=rfl
 have e3:FD.binade=4503599627370496:=rfl
 have e5:FD.signWeight=9223372036854775808:=rfl
 unfold Format.read
 simp only [e1,e2,e3,e5]
 rw [if_neg om,if_pos h4]
theorem fnear_ {neg:Bool}{a k:Nat}(ha:a<9007199254740992)(h0:a≠0):∃ j:Nat,j<=52/\FD.read (FD.nearest neg (a * 2 ^ k) (-(k:Int))) = .number neg (a * 2 ^ j) (-(j:Int)):=by
 have hL1:2 ^ a.log2<=a:=Nat.log2_self_le h0
 have hL2:a<2 ^ (a.log2 + 1):=Nat.lt_log2_self
 have hL3:a.log2<=52:=by
  rcases Nat.lt_or_ge 52 a.log2 with h | h
  ·have:2 ^ 53<=2 ^ a.log2:=Nat.pow_le_pow_right om h
   omega
  ·exact h
 generalize a.log2=L at hL1 hL2 hL3
 have hk1:=Nat.two_pow_pos k
 have hlog:(a * 2 ^ k).log2=L + k:=by
  refine flog2 ?_ ?_
  ·rw [Nat.pow_add]; exact Nat.mul_le_mul_right _ hL1
  ·rw [show L + k + 1=(L + 1) + k by omega,Nat.pow_add]; exact Nat.mul_lt_mul_of_pos_right hL2 hk1
 have hne:a * 2 ^ k≠0:=Nat.mul_ne_zero h0 om
 obtain ⟨i,hi,rfl⟩ : ∃ i,i<=52/\L=52 - i:=⟨52 - L,om,om⟩
 refine ⟨i,hi,?_⟩
 have hlast:max (-(k:Int) + ((52 - i + k:Nat):Int) - ((52:Nat):Int)) (-1074) = -(i:Int):=om
 have hb1:4503599627370496<=a * 2 ^ i:=by
  have:=Nat.mul_le_mul_right (2 ^ i) hL1
  rw [<- Nat.pow_add,show 52 - i + i=52 by omega] at this; exact this
 have hb2:a * 2 ^ i<9007199254740992:=by
  have:=Nat.mul_lt_mul_of_pos_right hL2 (Nat.two_pow_pos i)
  rw [<- Nat.pow_add,show 52 - i + 1 + i=53 by omega] at this; exact this
 have hkept:Toward.even.cut neg ((a * 2 ^ k) <<< (-(k:Int) - -(i:Int)).toNat) (-(i:Int) - -(k:Int)).toNat=a * 2 ^ i:=by
  rcases Nat.le_total k i with h | h
  ·rw [show (-(i:Int) - -(k:Int)).toNat=0 by omega,fcut0 _ _ _ (.inl rfl),Nat.shiftLeft_eq,Nat.mul_assoc,<- Nat.pow_add]
   congr 2; omega
  ·rw [show (-(k:Int) - -(i:Int)).toNat=0 by omega,Nat.shiftLeft_zero,show (-(i:Int) - -(k:Int)).toNat=k - i by omega,fcutk _ _ _ _ _ (.inl rfl) h0 om]
   congr 2; omega
 have hnear:FD.nearest neg (a * 2 ^ k) (-(k:Int))=FD.word neg ((1074 - i) * 4503599627370496 + a * 2 ^ i):=by
  unfold Format.nearest
  rw [if_neg hne]
  have e1:FD.leastPlace = -1074:=rfl
  have e2:FD.infRung=2047 * 4503599627370496:=rfl
  have e3:FD.binade=4503599627370496:=rfl
  have e4:(FD.fractionBits:Int)=((52:Nat):Int):=rfl
  simp only [e1,e2,e3,e4,hlog,hlast,hkept]
  rw [show (-(i:Int) - -1074).toNat=1074 - i by omega,Nat.min_eq_left]
  have h5:(1074 - i) * 4503599627370496<=1074 * 4503599627370496:=Nat.mul_le_mul_right _ om
  have h6:1074 * 4503599627370496 + 9007199254740992<=2047 * 4503599627370496:=by decide
  exact Nat.le_trans (Nat.add_le_add h5 (Nat.le_of_lt hb2)) h6
 rw [hnear]
 generalize a * 2 ^ i=q at hb1 hb2
 have e1:FD.leastPlace = -1074:=rfl
 have e2:FD.infRung=2047 * 4503599627370496:=rfl
 have e3:FD.binade=4503599627370496:=rfl
 have e5:FD.signWeight=9223372036854775808:=rfl
 have hw1:FD.word neg ((1074 - i) * 4503599627370496 + q) % 9223372036854775808=(1074 - i) * 4503599627370496 + q:=by
  unfold Format.word; rw [e5]; cases neg <;> simp <;> omega
 have hw2:(FD.word neg ((1074 - i) * 4503599627370496 + q) / 9223372036854775808 % 2 == 1)=neg:=by
  unfold Format.word; rw [e5]
  cases neg
  ·simp; omega
  ·simp; omega
 have h7:(1074 - i) * 4503599627370496 + q<2047 * 4503599627370496:=by
  have h5:(1074 - i) * 4503599627370496<=1074 * 4503599627370496:=Nat.mul_le_mul_right _ om
  exact Nat.lt_of_lt_of_le (Nat.add_lt_add_of_le_of_lt h5 hb2) (by decide)
 rw [fread_of hw2 hw1 (Nat.le_trans hb1 (Nat.le_add_left _ _)) h7]
 congr 1
 ·omega
 ·omega
theorem fnear0 {neg:Bool}{p:Int} : FD.read (FD.nearest neg 0 p) = .number neg 0 (-1074):=by
 unfold Format.nearest
 rw [if_pos rfl]
 cases neg <;> decide
def FRd (d:Datum)(n:Int):Prop:=∃ s m k,d = .number s m (-((k:Nat):Int))/\m=n.natAbs * 2 ^ k/\(0<n->s=false)/\(n<0->s=true)
def Rp (b:Nat)(n:Int):Prop:=FRd (FD.read b) n
abbrev Sm (n:Int):Prop:=-9007199254740992<n/\n<9007199254740992
theorem Rp.fnear {neg:Bool}{k:Nat}{n:Int}(hn:Sm n)(h1:0<n->neg=false)(h2:n<0->neg=true):Rp (FD.nearest neg (n.natAbs * 2 ^ k) (-(k:Int))) n:=by
 by_cases h0:n=0
 ·subst h0
  obtain ⟨q,hq⟩ : ∃ q:Nat,(-1074:Int) = -(q:Int):=⟨1074,rfl⟩
  refine ⟨neg,0,q,?_,by rw [Int.natAbs_zero,Nat.zero_mul],fun h=>absurd h (by decide),fun h=>absurd h (by decide)⟩
  rw [show (0:Int).natAbs * 2 ^ k=0 from Nat.zero_mul _,<- hq]; exact fnear0
 ·obtain ⟨j,_,hj⟩:=X.fnear_ (neg:=neg) (a:=n.natAbs) (k:=k) om om
  exact ⟨neg,_,j,hj,rfl,h1,h2⟩
theorem Rp.ofInt {n:Int}(hn:Sm n):Rp (Go.FloatKind.f64.nearest n) n:=by
 have:=Rp.fnear (neg:=decide (n<0)) (k:=0) hn (fun h=>by simp; omega) (fun h=>by simp; omega)
 rw [Nat.pow_zero,Nat.mul_one] at this
 exact this
theorem signed_eq {s:Bool}{n:Int}{k u:Nat}(h1:0<n->s=false)(h2:n<0->s=true):signed s (n.natAbs * 2 ^ k) u=n * ((2 ^ (k + u):Nat):Int):=by
 unfold signed
 rw [Nat.shiftLeft_eq,Nat.mul_assoc,<- Nat.pow_add]
 rcases Int.lt_trichotomy n 0 with h | h | h
 ·rw [h2 h,if_pos rfl,Int.natCast_mul,show (n.natAbs:Int) = -n by omega,Int.neg_mul,Int.neg_neg]
 ·subst h; simp
 ·rw [h1 h,if_neg (by simp),Int.natCast_mul,show (n.natAbs:Int)=n by omega]
theorem FRd.sum {d e:Datum}{x y:Int}(hd:FRd d x)(he:FRd e y)(hs:Sm (x + y)):∃ r,(d.sum e).map FD.write=some r/\Rp r (x + y):=by
 obtain ⟨s,m,k,rfl,rfl,s1,s2⟩:=hd
 obtain ⟨t,n,l,rfl,rfl,t1,t2⟩:=he
 have hbase:min (-(k:Int)) (-(l:Int)) = -((max k l:Nat):Int):=om
 have e1:(-(k:Int) - -((max k l:Nat):Int)).toNat=max k l - k:=om
 have e2:(-(l:Int) - -((max k l:Nat):Int)).toNat=max k l - l:=om
 simp only [Datum.sum,hbase,e1,e2,signed_eq s1 s2,signed_eq t1 t2,Option.map]
 rw [show k + (max k l - k)=max k l by omega,show l + (max k l - l)=max k l by omega,<- Int.add_mul]
 refine ⟨_,rfl,?_⟩
 have hp:(0:Int)<((2 ^ max k l:Nat):Int):=by exact_mod_cast Nat.two_pow_pos _
 generalize hK:max k l=K at *
 have habs:((x + y) * ((2 ^ K:Nat):Int)).natAbs=(x + y).natAbs * 2 ^ K:=by rw [Int.natAbs_mul]; simp
 unfold Format.write
 simp only [habs]
 refine Rp.fnear hs (fun h=>?_) (fun h=>?_)
 ·have:0<(x + y) * ((2 ^ K:Nat):Int):=Int.mul_pos h hp
  rw [if_neg om]; exact decide_eq_false om
 ·have:(x + y) * ((2 ^ K:Nat):Int)<0:=Int.mul_neg_of_neg_of_pos h hp
  rw [if_neg om]; exact decide_eq_true om
theorem FRd.opp {d:Datum}{x:Int}(hd:FRd d x):FRd d.opposite (-x):=by
 obtain ⟨s,m,k,rfl,rfl,s1,s2⟩:=hd
 exact ⟨!s,_,k,rfl,by rw [Int.natAbs_neg],fun h=>by rw [s2 om]; rfl,fun h=>by rw [s1 om]; rfl⟩
theorem sgnp (x y:Int):(0<x/\0<y/\0<x * y)\/(x<0/\y<0/\0<x * y)\/(x<0/\0<y/\x * y<0)\/(0<x/\y<0/\x * y<0)\/x * y=0:=by
 rcases Int.lt_trichotomy x 0 with h1 | h1 | h1 <;> rcases Int.lt_trichotomy y 0 with h2 | h2 | h2
 ·exact .inr (.inl ⟨h1,h2,Int.mul_pos_of_neg_of_neg h1 h2⟩)
 ·subst h2; simp
 ·exact .inr (.inr (.inl ⟨h1,h2,Int.mul_neg_of_neg_of_pos h1 h2⟩))
 ·subst h1; simp
 ·subst h1; simp
 ·subst h1; simp
 ·exact .inr (.inr (.inr (.inl ⟨h1,h2,Int.mul_neg_of_pos_of_neg h1 h2⟩)))
 ·subst h2; simp
 ·exact .inl ⟨h1,h2,Int.mul_pos h1 h2⟩
theorem FRd.prod {d e:Datum}{x y:Int}(hd:FRd d x)(he:FRd e y)(hs:Sm (x * y)):∃ r,(d.product e).map FD.write=some r/\Rp r (x * y):=by
 obtain ⟨s,m,k,rfl,rfl,s1,s2⟩:=hd
 obtain ⟨t,n,l,rfl,rfl,t1,t2⟩:=he
 simp only [Datum.product,Option.map]
 refine ⟨_,rfl,?_⟩
 unfold Format.write
 simp only []
 rw [show x.natAbs * 2 ^ k * (y.natAbs * 2 ^ l)=(x * y).natAbs * 2 ^ (k + l) by rw [Int.natAbs_mul,Nat.pow_add]; ac_rfl,show -(k:Int) + -(l:Int) = -((k + l:Nat):Int) by omega]
 refine Rp.fnear hs (fun h=>?_) (fun h=>?_)
 ·rcases sgnp x y with ⟨h1,h2,_⟩ | ⟨h1,h2,_⟩ | ⟨_,_,h3⟩ | ⟨_,_,h3⟩ | h3
  ·rw [s1 h1,t1 h2]; rfl
  ·rw [s2 h1,t2 h2]; rfl
  all_goals omega
 ·rcases sgnp x y with ⟨_,_,h3⟩ | ⟨_,_,h3⟩ | ⟨h1,h2,_⟩ | ⟨h1,h2,_⟩ | h3
  ·omega
  ·omega
  ·rw [s2 h1,t1 h2]; rfl
  ·rw [s1 h1,t2 h2]; rfl
  ·omega
theorem FRd.toInt {d:Datum}{n:Int}(hd:FRd d n):d.toInt .zero=some n:=by
 obtain ⟨s,m,k,rfl,rfl,s1,s2⟩:=hd
 have e1:(-(k:Int)).toNat=0:=om
 have e2:(- -(k:Int)).toNat=k:=om
 have hc:Toward.zero.cut s (n.natAbs * 2 ^ k) k=n.natAbs:=by
  by_cases h0:n=0
  ·subst h0; unfold Toward.cut; simp
  ·rw [fcutk _ _ _ _ _ (.inr rfl) om (Nat.le_refl _)]; simp
 have:=signed_eq (k:=0) (u:=0) s1 s2
 simp only [Datum.toInt,Datum.integral,e1,e2,Nat.shiftLeft_zero,hc]
 simpa using this
end
section
variable {P:Program}
def FIs (n:Int)(v:Value):Prop:=∃ b,v = .float .f64 b/\Rp b n
theorem gives_fl {op:BinOp}{a b:Nat}{x y z:Int}(ha:Rp a x)(hb:Rp b y)(hz:Sm z)(h:(op = .add/\z=x + y)\/(op = .sub/\z=x - y)\/(op = .mul/\z=x * y)):Gives P (Op.floatArith op .f64 a b) (FIs z):=by
 unfold Op.floatArith
 rcases h with ⟨rfl,rfl⟩ | ⟨rfl,rfl⟩ | ⟨rfl,rfl⟩
 ·obtain ⟨r,h1,h2⟩:=FRd.sum ha hb hz
  refine (Gives.pure (G:=fun o=>o=some r) h1).bind fun o ho=>?_
  subst ho; exact .pure ⟨r,rfl,h2⟩
 ·obtain ⟨r,h1,h2⟩:=FRd.sum ha (FRd.opp hb) (by rw [<- Int.sub_eq_add_neg]; exact hz)
  rw [<- Int.sub_eq_add_neg] at h2
  refine (Gives.pure (G:=fun o=>o=some r) h1).bind fun o ho=>?_
  subst ho; exact .pure ⟨r,rfl,h2⟩
 ·obtain ⟨r,h1,h2⟩:=FRd.prod ha hb hz
  refine (Gives.pure (G:=fun o=>o=some r) h1).bind fun o ho=>?_
  subst ho; exact .pure ⟨r,rfl,h2⟩
theorem gives_arx {op:BinOp}{a b:Nat}{x y z:Int}(ha:Rp a x)(hb:Rp b y)(hz:Sm z)(h:(op = .add/\z=x + y)\/(op = .sub/\z=x - y)\/(op = .mul/\z=x * y)):Gives P (Op.Complex.arith op .f64 a b) (fun r=>Rp r z):=by
 unfold Op.Complex.arith
 refine (gives_fl ha hb hz h).bind fun v hv=>?_
 obtain ⟨r,rfl,hr⟩:=hv
 exact .pure hr
theorem gives_cvx {x:Nat}{n:Int}(h:Rp x n):Gives P (Op.Complex.conv .f64 x .f64) (fun r=>Rp r n):=by
 unfold Op.Complex.conv
 rw [if_pos rfl]; exact .pure h
def CIs (x y:Int)(v:Value):Prop:=∃ a b,v = .complex .f64 a b/\Rp a x/\Rp b y
variable {a b c d:Nat} {x y u v:Int}
theorem gives_cadd (ha:Rp a x)(hb:Rp b y)(hc:Rp c u)(hd:Rp d v)(h1:Sm (x + u))(h2:Sm (y + v)):Gives P (Op.complexOp .add .f64 a b c d) (CIs (x + u) (y + v)):=by
 unfold Op.complexOp
 exact (gives_arx ha hc h1 (.inl ⟨rfl,rfl⟩)).bind fun p hp=>(gives_arx hb hd h2 (.inl ⟨rfl,rfl⟩)).bind fun q hq=>.pure ⟨p,q,rfl,hp,hq⟩
theorem gives_cmul (ha:Rp a x)(hb:Rp b y)(hc:Rp c u)(hd:Rp d v)(s1:Sm (x * u))(s2:Sm (y * v))(s3:Sm (x * v))(s4:Sm (y * u))(h1:Sm (x * u - y * v))(h2:Sm (x * v + y * u)):Gives P (Op.complexOp .mul .f64 a b c d) (CIs (x * u - y * v) (x * v + y * u)):=by
 unfold Op.complexOp
 refine (gives_cvx ha).bind fun _ ha=>(gives_cvx hb).bind fun _ hb=>(gives_cvx hc).bind fun _ hc=>(gives_cvx hd).bind fun _ hd=>?_
 refine Gives.bind (G:=fun ef=>Rp ef.1 (x * u - y * v)/\Rp ef.2 (x * v + y * u)) ?_ fun ef hef=>?_
 rotate_left
 ·exact (gives_cvx hef.1).bind fun p hp=>(gives_cvx hef.2).bind fun q hq=>.pure ⟨p,q,rfl,hp,hq⟩
 show Gives P (Op.Complex.product _ _ _ _) _
 unfold Op.Complex.product Op.Complex.mul Op.Complex.sub Op.Complex.add
 refine (gives_arx ha hc s1 (.inr (.inr ⟨rfl,rfl⟩))).bind fun _ k1=>(gives_arx hb hd s2 (.inr (.inr ⟨rfl,rfl⟩))).bind fun _ k2=>(gives_arx k1 k2 h1 (.inr (.inl ⟨rfl,rfl⟩))).bind fun _ k3=>?_
 exact (gives_arx ha hd s3 (.inr (.inr ⟨rfl,rfl⟩))).bind fun _ k4=>(gives_arx hb hc s4 (.inr (.inr ⟨rfl,rfl⟩))).bind fun _ k5=>(gives_arx k4 k5 h2 (.inl ⟨rfl,rfl⟩)).bind fun _ k6=>.pure ⟨k3,k6⟩
theorem gives_fix {n:Int}(h:Rp b n)(hn : -9223372036854775808<=n/\n<=9223372036854775807):Gives P (Conv.floatToInt .f64 b .i64) (fun v=>v = .int .i64 n):=by
 unfold Conv.floatToInt
 have e:(FloatKind.f64.decode b).toInt .zero=some n:=FRd.toInt h
 simp only [e]
 rw [if_pos]
 ·exact .pure rfl
 ·have e1:IntKind.i64.min = -9223372036854775808:=(by decide)
  have e2:IntKind.i64.max=9223372036854775807:=(by decide)
  rw [e1,e2]; exact hn
end
section
variable {rd:Option Nat} {P:Program} {N n0:Nat} {ops:Array Oper} {i:Nat} {K:St->Prop} {s:St} {d:Nat}
theorem fopx_if {u t:Nat}{k:IntKind}{n:Int}{sd:TypeDesc}(h:fAt N ops s.fr i=some (.cv u t (.int k n),d))(hu:P.underlying u=some sd)(ht:P.underlying t=some (.float .f64))(hs:Sm n)(hk:∀ b:Nat,Rp b n->XOi rd P N n0 ops (i + 1) K ⟨(d,.raw (.float .f64 b)) :: s.fr,s.mem,s.nx⟩):XOi rd P N n0 ops i K s:=by
 obtain ⟨o,h1,h2,h3,h4,h5⟩:=fAt_spec h
 refine fop_ h1 h2 h3 h4 (FIs n) (fun Γ ρ w a hf=>?_) (fun v hv=>by obtain ⟨b,rfl,hb⟩:=hv; exact ⟨.raw (.float .f64 b),fun _ _=>by simp only [Den]; exact ⟨trivial,rfl⟩,fun _=>rfl,hk b hb⟩)
 unfold fIs at h5
 split at h5
 all_goals first | cases h5; done | skip
 rename_i s' t' x hop
 simp only [Option.some.injEq,FO.cv.injEq] at h5
 obtain ⟨rfl,rfl,hx⟩:=h5
 refine ⟨.float .f64 (FloatKind.f64.nearest n),w,.refl,?_,_,rfl,Rp.ofInt hs⟩
 simp [execOp,hop,int_den hf hx,convert,run_underlying hu,run_underlying ht,Conv.intToFloat]
theorem fopx_fi {u t:Nat}{b:Nat}{n:Int}{sd:TypeDesc}(h:fAt N ops s.fr i=some (.cv u t (.raw (.float .f64 b)),d))(hu:P.underlying u=some sd)(ht:P.underlying t=some (.int .i64))(hb:Rp b n)(hn : -9223372036854775808<=n/\n<=9223372036854775807)(hk:XOi rd P N n0 ops (i + 1) K ⟨(d,.int .i64 n) :: s.fr,s.mem,s.nx⟩):XOi rd P N n0 ops i K s:=by
 obtain ⟨o,h1,h2,h3,h4,h5⟩:=fAt_spec h
 refine fop_ h1 h2 h3 h4 (fun v=>v = .int .i64 n) (fun Γ ρ w a hf=>?_) (fun v hv=>by subst hv; exact ⟨.int .i64 n,fun _ _=>by simp only [Den],fun _=>rfl,hk⟩)
 unfold fIs at h5
 split at h5
 all_goals first | cases h5; done | skip
 rename_i s' t' x hop
 simp only [Option.some.injEq,FO.cv.injEq] at h5
 obtain ⟨rfl,rfl,hx⟩:=h5
 obtain ⟨v,w',g1,g2,g3⟩:=gives_fix (P:=P) hb hn w
 refine ⟨v,w',g1,?_,g3⟩
 simp [execOp,hop,raw_den hf hx,convert,run_underlying hu,run_underlying ht,g2]
theorem fopx_ad {a b a' b':Nat}{x y u v:Int}(h:fAt N ops s.fr i=some (.ad (.raw (.complex .f64 a b)) (.raw (.complex .f64 a' b')),d))(ha:Rp a x)(hb:Rp b y)(hc:Rp a' u)(hd:Rp b' v)(h1:Sm (x + u))(h2:Sm (y + v))
  (hk:∀ p q:Nat,Rp p (x + u)->Rp q (y + v)->XOi rd P N n0 ops (i + 1) K ⟨(d,.raw (.complex .f64 p q)) :: s.fr,s.mem,s.nx⟩):XOi rd P N n0 ops i K s:=by
 obtain ⟨o,k1,k2,k3,k4,h5⟩:=fAt_spec h
 refine fop_ k1 k2 k3 k4 (CIs (x + u) (y + v)) (fun Γ ρ w e hf=>?_) (fun v hv=>by obtain ⟨p,q,rfl,hp,hq⟩:=hv; exact ⟨.raw (.complex .f64 p q),fun _ _=>by simp only [Den]; exact ⟨trivial,rfl⟩,fun _=>rfl,hk p q hp hq⟩)
 unfold fIs at h5
 split at h5
 all_goals first | cases h5; done | skip
 rename_i x' y' ats hop
 simp only [Option.some.injEq,FO.ad.injEq] at h5
 obtain ⟨v,w',g1,g2,g3⟩:=gives_cadd (P:=P) ha hb hc hd h1 h2 w
 refine ⟨v,w',g1,?_,g3⟩
 simp [execOp,hop,raw_den hf h5.1,raw_den hf h5.2,eqGuard,binOp,g2]
theorem fopx_mu {a b a' b':Nat}{x y u v:Int}(h:fAt N ops s.fr i=some (.mu (.raw (.complex .f64 a b)) (.raw (.complex .f64 a' b')),d))(ha:Rp a x)(hb:Rp b y)(hc:Rp a' u)(hd:Rp b' v)(s1:Sm (x * u))(s2:Sm (y * v))(s3:Sm (x * v))(s4:Sm (y * u))(h1:Sm (x * u - y * v))(h2:Sm (x * v + y * u))
  (hk:∀ p q:Nat,Rp p (x * u - y * v)->Rp q (x * v + y * u)->XOi rd P N n0 ops (i + 1) K ⟨(d,.raw (.complex .f64 p q)) :: s.fr,s.mem,s.nx⟩):XOi rd P N n0 ops i K s:=by
 obtain ⟨o,k1,k2,k3,k4,h5⟩:=fAt_spec h
 refine fop_ k1 k2 k3 k4 (CIs (x * u - y * v) (x * v + y * u)) (fun Γ ρ w e hf=>?_) (fun v hv=>by obtain ⟨p,q,rfl,hp,hq⟩:=hv; exact ⟨.raw (.complex .f64 p q),fun _ _=>by simp only [Den]; exact ⟨trivial,rfl⟩,fun _=>rfl,hk p q hp hq⟩)
 unfold fIs at h5
 split at h5
 all_goals first | cases h5; done | skip
 rename_i x' y' ats hop
 simp only [Option.some.injEq,FO.mu.injEq] at h5
 obtain ⟨v,w',g1,g2,g3⟩:=gives_cmul (P:=P) ha hb hc hd s1 s2 s3 s4 h1 h2 w
 refine ⟨v,w',g1,?_,g3⟩
 simp [execOp,hop,raw_den hf h5.1,raw_den hf h5.2,eqGuard,binOp,g2]
theorem sm_mul {x y:Int}(hx : -32768<=x/\x<=32767)(hy : -32768<=y/\y<=32767) : -1073741824<=x * y/\x * y<=1073741824:=by
 have h1:x.natAbs * y.natAbs<=32768 * 32768:=Nat.mul_le_mul om om
 have h2:=Int.natAbs_mul x y
 omega
theorem wrap_i16 (n:Int) : -32768<=IntKind.i16.wrap n/\IntKind.i16.wrap n<=32767:=by simp only [IntKind.wrap,IntKind.bits,IntKind.signed]; simp; omega
theorem wrap_u16 (n:Int):0<=IntKind.u16.wrap n/\IntKind.u16.wrap n<=65535:=by simp only [IntKind.wrap,IntKind.bits,IntKind.signed]; simp; omega
theorem i16_is (n:Int):IntKind.i16.wrap n=(n + 32768) % 65536 - 32768:=by simp only [IntKind.wrap,IntKind.bits,IntKind.signed]; simp; omega
def pkN (x y:Int):Int:=IntKind.u16.wrap x * 65536 + IntKind.u16.wrap y
def nAd (a b:Int):Int:=pkN (IntKind.i16.wrap (a / 65536) + IntKind.i16.wrap (b / 65536)) (IntKind.i16.wrap a + IntKind.i16.wrap b)
def nMu (a b:Int):Int:=pkN (IntKind.i16.wrap (a / 65536) * IntKind.i16.wrap (b / 65536) - IntKind.i16.wrap a * IntKind.i16.wrap b) (IntKind.i16.wrap (a / 65536) * IntKind.i16.wrap b + IntKind.i16.wrap a * IntKind.i16.wrap (b / 65536))
theorem pkN_ok (x y:Int):0<=pkN x y/\pkN x y<=18446744073709551615:=by
 have h1:=wrap_u16 x; have h2:=wrap_u16 y; unfold pkN; omega
theorem tmod_ng {a b:Int}(h:a<0):a.tmod b = -((-a) % b):=by
 have:=Int.tmod_eq_emod_of_nonneg (a:=-a) (b:=b) om
 rw [Int.neg_tmod] at this
 omega
theorem i16_lo {n:Int}(h:0<=n/\n<32768):n=IntKind.i16.wrap n:=by rw [i16_is]; omega
theorem i16_hi {n:Int}(h:32768<=n/\n<=65535):n - 65536=IntKind.i16.wrap n:=by rw [i16_is]; omega
theorem i16_mod {n:Int} : IntKind.i16.wrap (n % 65536)=IntKind.i16.wrap n:=by rw [i16_is,i16_is]; omega
theorem u16_pos {n m:Int}(e:m=n % 65536):m=IntKind.u16.wrap n:=e
theorem pk_ref (x y:Int):65536 * IntKind.u16.wrap x + IntKind.u16.wrap y=pkN x y:=by unfold pkN; omega
end
end Go.Proofs.YtmmfpkkamgapkaaGreat.X
