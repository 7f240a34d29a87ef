/- A step in memory,exactly: what the ends of the walks come to. No program in sight. -/
import Derived.Test.YtmmfpkkamgapkaaGreatXu8
import Derived.Test.YtmmfpkkamgapkaaGreatXg2
namespace Go.Proofs.YtmmfpkkamgapkaaGreat.X
open Go Go.RowKit
set_option linter.unusedVariables false
def bx (W:Int)(xs ys:List Int)(f0 f1 f2 t0 t1 t2 sz lm:Int)(ts:List Th)(ph scn fl:Int)(os:List Int)(brk:Int)(st:List Int)(b0 b1:Int)(lg:List Ent)(lf:List OpV)(pd:List Ent)(wt:Bool)(dn:List AnsV)(k h i j v t f m e v1:Int)(y w:Bool):List SV :=
  [.int .i64 W,.sl false 1 (xs.map (SV.int .u64)),.sl false 1 (ys.map (SV.int .u64)),.int .i64 f0,.int .i64 f1,.int .i64 f2,.int .i64 t0,.int .i64 t1,.int .i64 t2,.int .i64 sz,.int .i64 lm,.sl false 8 (ts.map thS),.int .i64 ph,.int .i64 scn,.int .i64 fl,.sl false 1 (os.map (SV.int .i64)),.int .i64 brk,
   .sl false 1 (st.map (SV.int .u64)),.int .i64 b0,.int .i64 b1,.sl false 2 (lg.map entS),.sl false 8 (lf.map opS),.sl false 2 (pd.map entS),.bool wt,.sl false 3 (dn.map ansS),
   .int .i64 k,.int .i64 h,.int .i64 i,.int .i64 j,.int .u64 v,.int .i64 t,.int .i64 f,.int .u64 m,.int .i64 e,.int .u64 v1,.bool y,.bool w]
abbrev bxP (W:Int)(xs ys:List Int)(f0 f1 f2 t0 t1 t2 sz lm:Int)(ts:List Th)(ph scn fl:Int)(os:List Int)(brk:Int)(st:List Int)(b0 b1:Int)(lg:List Ent)(lf:List OpV)(pd:List Ent)(wt:Bool)(dn:List AnsV)(o:OpV)(e v1:Int)(y w:Bool):List SV :=
  bx W xs ys f0 f1 f2 t0 t1 t2 sz lm ts ph scn fl os brk st b0 b1 lg lf pd wt dn o.k o.h o.i o.j o.v o.t o.l o.m e v1 y w
abbrev bxO (W:Int)(xs ys:List Int)(f0 f1 f2 t0 t1 t2 sz lm:Int)(ts:List Th)(ph scn fl:Int)(os:List Int)(brk:Int)(E:Th)(o:OpV)(e v1:Int)(y w:Bool):List SV :=
  bxP W xs ys f0 f1 f2 t0 t1 t2 sz lm ts ph scn fl os brk E.st E.b0 E.b1 E.lg E.lf E.pd E.wt E.dn o e v1 y w
abbrev bxT (W:Int)(xs ys:List Int)(f0 f1 f2 t0 t1 t2 sz lm:Int)(ts:List Th)(ph scn fl:Int)(os:List Int)(brk:Int)(E:Th)(k h i j v t f m e v1:Int)(y w:Bool):List SV :=
  bx W xs ys f0 f1 f2 t0 t1 t2 sz lm ts ph scn fl os brk E.st E.b0 E.b1 E.lg E.lf E.pd E.wt E.dn k h i j v t f m e v1 y w
def JF (k ph h i W f1 f2:Int)(xs ys st X Y:List Int)(F:Int)(st1:List Int)(p q:Int)(pd1:List Ent)(e v:Int)(w:Bool):Prop :=
  ((X.length:Int)=W/\(Y.length:Int)=W/\U64s X/\U64s Y)/\(f1<=F/\F<=f2)/\(U64s st1/\(st1.length:Int) * 8<=140737488355000)/\((p=0/\q=0)\/(0<=p/\p<=q/\q<=F))/\(Ents pd1/\(pd1.length:Int)<=1)/\((0<=e/\e<=100)/\(0<=v/\v<=18446744073709551615)) /\
  (wrB k=true\/k=1\/(X=xs/\Y=ys/\F=f1/\(pd1.length:Int)=0)) /\
  (wrB k=true->w=false/\((e≠0/\(pd1.length:Int)=0)\/(e=0/\0<=h/\h<(st.length:Int)/\(ph=1->pd1=[(ix st h,i)])))) /\
  (k=11->w=true)
theorem wr_no {k:Int}(h:k<4\/7<k):¬ (wrB k=true):=by
  unfold wrB; intro g; have:=of_decide_eq_true g; omega
theorem wr_yes {k:Int}(h:4<=k/\k<=7):wrB k=true:=decide_eq_true h
section
variable {k ph h i W f1 f2 F p q e v:Int} {xs ys st X Y st1:List Int} {pd pd1:List Ent} {w:Bool}
theorem jf_rd (hx:(xs.length:Int)=W:=by omega)(hy:(ys.length:Int)=W:=by omega)(ux:U64s xs:=by assumption)(uy:U64s ys:=by assumption)(hf:f1<=f2:=by omega)
    (us:U64s st1:=by first | assumption | exact U64s.take (by assumption) _ | exact U64s.append (by assumption) (U64s.cons om U64s.nil)) (ls:(st1.length:Int) * 8<=140737488355000:=by first | omega | (simp; omega))
    (hp:(p=0/\q=0)\/(0<=p/\p<=q/\q<=f1):=by omega) (ep:Ents pd:=by assumption) (lp:(pd.length:Int)=0:=by omega) (he:(0<=e/\e<=100)/\(0<=v/\v<=18446744073709551615):=by omega)
    (hk:wrB k=true->w=false/\e≠0:=by first | exact fun g=>absurd g (wr_no om) | exact fun _=>⟨rfl,om⟩)
    (hc:k=11->w=true:=by first | exact fun _=>rfl | (intro _; omega)):JF k ph h i W f1 f2 xs ys st xs ys f1 st1 p q pd e v w :=
  ⟨⟨hx,hy,ux,uy⟩,⟨om,hf⟩,⟨us,ls⟩,hp,⟨ep,om⟩,he,.inr (.inr ⟨rfl,rfl,rfl,lp⟩),fun g=>⟨(hk g).1,.inl ⟨(hk g).2,lp⟩⟩,hc⟩
theorem jf_wr (hk:4<=k/\k<=7:=by omega)(hx:(X.length:Int)=W:=by first | omega | assumption)(hy:(Y.length:Int)=W:=by first | omega | assumption)(ux:U64s X:=by assumption)(uy:U64s Y:=by assumption)(hf:f1<=f2:=by omega)
    (us:U64s st:=by assumption) (ls:(st.length:Int) * 8<=140737488355000:=by omega) (hp:(p=0/\q=0)\/(0<=p/\p<=q/\q<=f1):=by omega) (hh:0<=h/\h<(st.length:Int):=by omega) (hi : -9223372036854775808<=i/\i<=9223372036854775807:=by omega)
    (ep:Ents pd:=by assumption) (lp:(pd.length:Int)=0:=by omega)
    (hd:(ph≠1/\pd1=pd)\/pd1=[(ix st h,i)]:=by first | assumption | exact .inr rfl | exact .inl ⟨om,rfl⟩):JF k ph h i W f1 f2 xs ys st X Y f1 st p q pd1 0 0 false:=by
  have hu:=us.ix h
  have h1:Ents pd1/\(pd1.length:Int)<=1:=by
    rcases hd with ⟨_,rfl⟩ | rfl
    · exact ⟨ep,om⟩
    · exact ⟨Ents.one om om,by simp⟩
  refine ⟨⟨hx,hy,ux,uy⟩,⟨om,hf⟩,⟨us,ls⟩,hp,h1,om,.inl (wr_yes hk),fun _=>⟨rfl,.inr ⟨rfl,hh.1,hh.2,fun g=>?_⟩⟩,fun _=>by omega⟩
  rcases hd with ⟨h2,_⟩ | h2
  · exact absurd g h2
  · exact h2
theorem jf_al (hk:k=1:=by omega)(hx:(X.length:Int)=W:=by first | omega | assumption)(hy:(Y.length:Int)=W:=by first | omega | assumption)(ux:U64s X:=by assumption)(uy:U64s Y:=by assumption)(hf:f1<=F/\F<=f2:=by omega)
    (us:U64s st1:=by first | assumption | exact U64s.append (by assumption) (U64s.cons om U64s.nil)) (ls:(st1.length:Int) * 8<=140737488355000:=by first | omega | (simp; omega)) (hp:(p=0/\q=0)\/(0<=p/\p<=q/\q<=F):=by omega)
    (ep:Ents pd:=by assumption) (lp:(pd.length:Int)=0:=by omega) (he:(0<=e/\e<=100)/\(0<=v/\v<=18446744073709551615):=by omega):JF k ph h i W f1 f2 xs ys st X Y F st1 p q pd e v w :=
  ⟨⟨hx,hy,ux,uy⟩,hf,⟨us,ls⟩,hp,⟨ep,om⟩,he,.inr (.inl hk),fun g=>absurd g (wr_no om),fun _=>by omega⟩
end
section
variable {ts:List Th} {th:Int} {T E:Th} {a:AnsV} {st1:List Int} {p q:Int} {pd1:List Ent} {w:Bool}
theorem th_work (h:ThOk E)(us:U64s st1)(ls:(st1.length:Int) * 8<=140737488355000)(hp : -9223372036854775808<=p/\p<=9223372036854775807)(hq : -9223372036854775808<=q/\q<=9223372036854775807)(ep:Ents pd1)(lp:(pd1.length:Int)<=1):ThOk (Th.mk st1 p q (Th.lg E) (Th.lf E) pd1 w (Th.dn E)):=by
  obtain ⟨g1,g2,g3,g4,g5,g6,g7,g8,g9,g10,g11,g12⟩:=h
  exact ⟨us,ls,hp,hq,g5,g6,g7,g8,ep,by simp only []; omega,g11,g12⟩
theorem can_w {lm ph brk:Int}(h:0<=th/\th<(ts.length:Int))(hb:brk=0)(hp:((Th.pd (thA ts th)).length:Int)<=0)(hw:(Th.wt (thA ts th))=true):canB lm ph brk ts th=false:=((nx_2 hw).trans (can_n h hb hp)).symm
theorem th_done {e v:Int}{y:Bool}(h:ThOk E)(us:U64s st1)(ls:(st1.length:Int) * 8<=140737488355000)(hp : -9223372036854775808<=p/\p<=9223372036854775807)(hq : -9223372036854775808<=q/\q<=9223372036854775807)(ep:Ents pd1)(lp:(pd1.length:Int)<=1)(he : -9223372036854775808<=e/\e<=9223372036854775807)(hv:0<=v/\v<=18446744073709551615)(hg:((Th.dn E).length:Int) * 24<=140737488351232) :
    ThOk (Th.mk st1 p q (Th.lg E) ((Th.lf E).drop 1) pd1 w ((Th.dn E)++[(AnsV.mk e v y)])):=th_next1 (th_work h us ls hp hq ep lp) he hv hg
theorem ths_sh:Ths [(Th.mk [] 0 0 [] [(OpV.mk 11 0 0 0 0 0 0 0)] [] false [])]:=fun t h=>by
  rw [List.mem_singleton.1 h]
  unfold ThOk; simp [U64s,Ents,Ops,Anss,OpOkV]
theorem bfs_sh:Bfs [(Th.mk [] 0 0 [] [(OpV.mk 11 0 0 0 0 0 0 0)] [] false [])] 0:=fun t h=>by
  rw [List.mem_singleton.1 h]
  exact ⟨.inl ⟨rfl,rfl⟩,by decide⟩
theorem ans_set (h0:0<=th)(h1:th<(ts.length:Int)):List.map thS (List.set (List.set ts (Int.toNat th) T) (Int.toNat th) (tN (thA (List.set ts (Int.toNat th) T) th) ((Th.lf (thA (List.set ts (Int.toNat th) T) th)).drop 1) (Th.dn (thA (List.set ts (Int.toNat th) T) th)++[a])))=List.map thS (List.set ts (Int.toNat th) (tN T (T.lf.drop 1) (T.dn++[a]))):=by
  rw [th_set h0 h1,List.set_set]
end
set_option linter.unusedVariables false
def frW (f0 f1 p q b:Int):Prop:=b / 4294967296=f0 + 1/\(f1<=b % 4294967296\/(p<=b % 4294967296/\b % 4294967296<q))
def JX (k h i j v t f m W f0 f1 b0 b1:Int)(xs ys st X Y st1:List Int)(e v1:Int)(y w:Bool):Prop:=w=true\/(w=false/\Stp1 W xs ys st (frW f0 f1 b0 b1) ⟨k,h,i,j,v,t,f,m⟩ X Y st1 e v1 y)
section
variable {W h i:Int} {xs ys st:List Int} {pt:Bool} {e:Int}
theorem fE_5 (h0:¬ (0<=h/\h<(st.length:Int)):=by omega):fE W xs ys st h i pt=5:=by unfold fE; rw [if_pos h0]
theorem fE_6 (h0:0<=h/\h<(st.length:Int):=by omega)(h1:ix st h=0:=by omega):fE W xs ys st h i pt=6:=by unfold fE; rw [if_neg (fun hc=>hc h0),if_pos h1]
theorem fE_10 (h0:0<=h/\h<(st.length:Int):=by omega)(h1:ix st h≠0:=by omega)(h2:oErr W xs ys (ix st h)≠0\/ldw xs ys (ix st h) / 72057594037927936=255:=by omega):fE W xs ys st h i pt=10:=by unfold fE; rw [if_neg (fun hc=>hc h0),if_neg h1,if_pos h2]
theorem fE_7 (h0:0<=h/\h<(st.length:Int):=by omega)(h1:ix st h≠0:=by omega)(h2:¬ (oErr W xs ys (ix st h)≠0\/ldw xs ys (ix st h) / 72057594037927936=255):=by omega)(h3:¬ (0<=i/\i<(ldw xs ys (ix st h) / 4294967296) % 16777216):=by omega):fE W xs ys st h i pt=7:=by
 unfold fE; rw [if_neg (fun hc=>hc h0),if_neg h1,if_neg h2,if_pos h3]
theorem fE_8 (h0:0<=h/\h<(st.length:Int):=by omega)(h1:ix st h≠0:=by omega)(h2:¬ (oErr W xs ys (ix st h)≠0\/ldw xs ys (ix st h) / 72057594037927936=255):=by omega)(h3:0<=i/\i<(ldw xs ys (ix st h) / 4294967296) % 16777216:=by omega)
  (h4:isPtr ((ldw xs ys (ix st h) / 4294967296) % 16777216) (ldw xs ys (ix st h) % 4294967296) i≠pt:=by simp_all):fE W xs ys st h i pt=8:=by
 unfold fE; rw [if_neg (fun hc=>hc h0),if_neg h1,if_neg h2,if_neg (fun hc=>hc h3),if_pos h4]
theorem fE_0 (h0:0<=h/\h<(st.length:Int):=by omega)(h1:ix st h≠0:=by omega)(h2:¬ (oErr W xs ys (ix st h)≠0\/ldw xs ys (ix st h) / 72057594037927936=255):=by omega)(h3:0<=i/\i<(ldw xs ys (ix st h) / 4294967296) % 16777216:=by omega)
  (h4:isPtr ((ldw xs ys (ix st h) / 4294967296) % 16777216) (ldw xs ys (ix st h) % 4294967296) i=pt:=by simp_all):fE W xs ys st h i pt=0:=by
 unfold fE; rw [if_neg (fun hc=>hc h0),if_neg h1,if_neg h2,if_neg (fun hc=>hc h3),if_neg (fun hc=>hc h4)]
theorem fE_is (he:fE W xs ys st h i pt=0):(0<=h/\h<(st.length:Int))/\ix st h≠0/\oErr W xs ys (ix st h)=0/\ldw xs ys (ix st h) / 72057594037927936≠255/\(0<=i/\i<(ldw xs ys (ix st h) / 4294967296) % 16777216):=by
 unfold fE at he
 split at he
 ·omega
 ·split at he
  ·omega
  ·split at he
   ·omega
   ·split at he
    ·omega
    ·rename_i h1 h2 h3 h4
     exact ⟨Decidable.not_not.1 h1,h2,Decidable.not_not.1 (fun hc=>h3 (.inl hc)),fun hc=>h3 (.inr hc),Decidable.not_not.1 h4⟩
end
section
variable {k h i j v t f m W f0 f1 b0 b1 e:Int} {xs ys st:List Int}
theorem jx_wait {X Y st1:List Int}{e v1:Int}{y:Bool} : JX k h i j v t f m W f0 f1 b0 b1 xs ys st X Y st1 e v1 y true:=.inl rfl
theorem jx_scal (hk:k=2\/k=4\/k=6\/k=7:=by omega)(he:fE W xs ys st h i false=e:=by assumption)(h0:e≠0:=by omega):JX k h i j v t f m W f0 f1 b0 b1 xs ys st xs ys st e 0 false false:=.inr ⟨rfl,.no (.scal hk he h0)⟩
theorem jx_ptr (hk:k=3\/k=5:=by omega)(he:fE W xs ys st h i true=e:=by assumption)(h0:e≠0:=by omega):JX k h i j v t f m W f0 f1 b0 b1 xs ys st xs ys st e 0 false false:=.inr ⟨rfl,.no (.ptr hk he h0)⟩
theorem jx_full3 (hk:k=3:=by omega)(he:fE W xs ys st h i true=0:=by assumption)(h0:16<=(st.length:Int):=by omega):JX k h i j v t f m W f0 f1 b0 b1 xs ys st xs ys st 4 0 false false:=.inr ⟨rfl,.no (.full3 hk he h0)⟩
theorem jx_link5 (hk:k=5:=by omega)(he:fE W xs ys st h i true=0:=by assumption)(h0:¬ (0<=j/\j<(st.length:Int)):=by omega):JX k h i j v t f m W f0 f1 b0 b1 xs ys st xs ys st 5 0 false false:=.inr ⟨rfl,.no (.link hk he h0)⟩
theorem jx_hand (hk:k=8\/k=9:=by omega)(h0:¬ (0<=h/\h<(st.length:Int)):=by omega):JX k h i j v t f m W f0 f1 b0 b1 xs ys st xs ys st 5 0 false false:=.inr ⟨rfl,.no (.hand hk h0)⟩
theorem jx_same5 (hk:k=8:=by omega)(h0:0<=h/\h<(st.length:Int):=by omega)(h1:¬ (0<=j/\j<(st.length:Int)):=by omega):JX k h i j v t f m W f0 f1 b0 b1 xs ys st xs ys st 5 0 false false:=.inr ⟨rfl,.no (.same hk h0 h1)⟩
theorem jx_full9 (hk:k=9:=by omega)(h0:0<=h/\h<(st.length:Int):=by omega)(h1:16<=(st.length:Int):=by omega):JX k h i j v t f m W f0 f1 b0 b1 xs ys st xs ys st 4 0 false false:=.inr ⟨rfl,.no (.full9 hk h0 h1)⟩
theorem jx_pop9 (hk:k=10:=by omega)(h0:(st.length:Int)=0:=by omega):JX k h i j v t f m W f0 f1 b0 b1 xs ys st xs ys st 9 0 false false:=.inr ⟨rfl,.no (.pop hk h0)⟩
theorem jx_kind (hk:k<1\/11<k:=by omega):JX k h i j v t f m W f0 f1 b0 b1 xs ys st xs ys st 1 0 false false:=.inr ⟨rfl,.no (.kind hk)⟩
def HOk (t f m:Int):Prop:=(t=255/\0<=f/\f<=65535/\m=0)\/(1<=t/\t<=200/\0<=f/\f<=16/\m<2 ^ (Int.toNat f)/\m<65536)
theorem newOk_iff (hm:0<=m):newOk ⟨k,h,i,j,v,t,f,m⟩↔HOk t f m/\t≠255:=by
 unfold newOk HOk
 simp only []
 rcases headErr_cases t f m hm with g | g
 ·exact ⟨fun hh=>⟨g.1,hh.2⟩,fun hh=>⟨g.2,hh.2⟩⟩
 ·exact ⟨fun hh=>absurd hh.1 g.2,fun hh=>absurd hh.1 g.1⟩
theorem jx_head (hk:k=1:=by omega)(hm:0<=m:=by omega)(h0:¬ (HOk t f m/\t≠255):=by unfold HOk; first | assumption | omega):JX k h i j v t f m W f0 f1 b0 b1 xs ys st xs ys st 1 0 false false:=.inr ⟨rfl,.no (.head hk (fun hc=>h0 ((newOk_iff hm).1 hc)))⟩
theorem jx_full1 (hk:k=1:=by omega)(hm:0<=m:=by omega)(h0:HOk t f m/\t≠255:=by unfold HOk; first | assumption | exact ⟨by assumption,by assumption⟩ | omega)(h1:16<=(st.length:Int):=by omega):JX k h i j v t f m W f0 f1 b0 b1 xs ys st xs ys st 4 0 false false:=.inr ⟨rfl,.no (.full1 hk ((newOk_iff hm).2 h0) h1)⟩
theorem jx_get (hk:k=2:=by omega)(he:fE W xs ys st h i false=0:=by assumption){v1:Int}(hv:v1=ldw xs ys (ix st h + 2 + i):=by first | rfl | assumption):JX k h i j v t f m W f0 f1 b0 b1 xs ys st xs ys st 0 v1 false false:=.inr ⟨rfl,by subst hv; exact .get hk he⟩
theorem jx_follow (hk:k=3:=by omega)(he:fE W xs ys st h i true=0:=by assumption)(h0:(st.length:Int)<16:=by omega){v1:Int}(hv:v1=ldw xs ys (ix st h + 2 + i):=by first | rfl | assumption):JX k h i j v t f m W f0 f1 b0 b1 xs ys st xs ys (st++[v1]) 0 0 false false:=.inr ⟨rfl,by subst hv; exact .follow hk he h0⟩
theorem jx_write {v1:Int}(hk:k=4\/k=6\/k=7:=by omega)(he:fE W xs ys st h i false=0:=by assumption)(hv:v1=nwV k (ldw xs ys (ix st h + 2 + i)) v:=by unfold nwV; first | (rw [if_neg om,if_neg om]; done) | (rw [if_pos om]; done) | (rw [if_pos om,<- ‹_=ldw xs ys (ix st h + 2 + i)›]; done) | (rw [if_neg om,if_pos om]; done) | (rw [if_neg om,if_pos om,<- ‹_=ldw xs ys (ix st h + 2 + i)›]; done)) :
  JX k h i j v t f m W f0 f1 b0 b1 xs ys st (stx xs (ix st h + 2 + i) v1) (sty ys (ix st h + 2 + i) v1) st 0 0 false false:=.inr ⟨rfl,.write hk he hv⟩
theorem jx_link (hk:k=5:=by omega)(he:fE W xs ys st h i true=0:=by assumption)(h0:0<=j/\j<(st.length:Int):=by omega):JX k h i j v t f m W f0 f1 b0 b1 xs ys st (stx xs (ix st h + 2 + i) (ix st j)) (sty ys (ix st h + 2 + i) (ix st j)) st 0 0 false false:=.inr ⟨rfl,.link hk he h0⟩
theorem jx_same (hk:k=8:=by omega)(h0:0<=h/\h<(st.length:Int):=by omega)(h1:0<=j/\j<(st.length:Int):=by omega):JX k h i j v t f m W f0 f1 b0 b1 xs ys st xs ys st 0 0 (ix st h == ix st j) false:=.inr ⟨rfl,.same hk h0 h1⟩
theorem jx_push (hk:k=9:=by omega)(h0:0<=h/\h<(st.length:Int):=by omega)(h1:(st.length:Int)<16:=by omega):JX k h i j v t f m W f0 f1 b0 b1 xs ys st xs ys (st++[ix st h]) 0 0 false false:=.inr ⟨rfl,.push hk h0 h1⟩
theorem jx_pop (hk:k=10:=by omega)(h0:0<(st.length:Int):=by omega):JX k h i j v t f m W f0 f1 b0 b1 xs ys st xs ys (st.take (Int.toNat ((st.length:Int) - 1))) 0 0 false false:=.inr ⟨rfl,.pop hk h0⟩
theorem jx_put {x0 y0:List Int}{a:Int}(hk:k=1)(hm:0<=m)(h0:HOk t f m/\t≠255)(h1:(st.length:Int)<16)(hx:(x0.length:Int)=W)(hy:(y0.length:Int)=W)(hW:16<=W/\W<=4096)(ha:a / 4294967296=f0 + 1)(hf0:0<=f0/\f0<=1)
  (hin:(f1<=a % 4294967296\/(b0<=a % 4294967296/\a % 4294967296 + f + 2<=b1))) (hfit:a % 4294967296 + f + 2<=W) (hbase:∀ b,(1<=b / 4294967296/\b / 4294967296<=2)->¬ frW f0 f1 b0 b1 b->ldw x0 y0 b=ldw xs ys b) :
  JX k h i j v t f m W f0 f1 b0 b1 xs ys st (px x0 a t f m) (py y0 a t f m) (st++[a]) 0 0 false false:=by
 have hH:=h0.1
 unfold HOk at hH
 have hl:0<=f:=om
 have hA:1<=a / 4294967296/\a / 4294967296<=2/\a % 4294967296<W:=om
 have e:=ldw_pa (m:=m) hx hy hW.2 hA hl (.inr ⟨h0.2,hfit⟩)
 have e0:=oErr_p hx hy hW.2 hA hm hH (.inr ⟨h0.2,hfit⟩)
 have c1:tT (px x0 a t f m) (py y0 a t f m) a=t:=by unfold tT; rw [e]; omega
 have c2:tL (px x0 a t f m) (py y0 a t f m) a=f:=by unfold tL; rw [e]; omega
 have c3:tM (px x0 a t f m) (py y0 a t f m) a=m:=by unfold tM; rw [e]; omega
 refine .inr ⟨rfl,.new hk ((newOk_iff hm).2 h0) h1 (decide_eq_true ⟨e0,?_⟩) c1 c2 c3 (fun q q0 q1=>?_) (fun q q0 q1=>?_) (fun b hb hn=>?_)⟩
 ·show tT (px x0 a t f m) (py y0 a t f m) a≠255
  rw [c1]; exact h0.2
 ·exact ldw_pi hx hy hW.2 hA hl h0.2 hfit om (by simp only [] at q1; omega)
 ·simp only [] at q1
  unfold frW
  omega
 ·have hne:b<a\/(t=255/\a + f + 1<=b)\/(t≠255/\a + f + 2<=b):=by
   rcases Int.lt_or_le b a with g | g
   ·exact .inl g
   ·rcases Int.lt_or_le b (a + f + 2) with g2 | g2
    ·refine absurd ?_ hn
     unfold frW
     omega
    ·exact .inr (.inr ⟨h0.2,g2⟩)
  rw [ldw_po hx hy hW.2 hA hl (.inr ⟨h0.2,hfit⟩) hb hne]
  exact hbase b hb hn
theorem rt_base (hx:(xs.length:Int)=W)(hy:(ys.length:Int)=W)(hW:16<=W/\W<=4096)(hf0:0<=f0/\f0<=1)(hp:(b0=0/\b1=0)\/(0<=b0/\b0<=b1/\b1<=f1))(hf:f1<=W)(b:Int)(hb:1<=b / 4294967296/\b / 4294967296<=2)(hn:¬ frW f0 f1 b0 b1 b):ldw (rtx xs f0 b0 b1) (rty ys f0 b0 b1) b=ldw xs ys b:=by
 unfold rtx rty
 by_cases h:b0<b1
 ·rw [if_pos h,if_pos h]
  refine ldw_po hx hy hW.2 om om om hb ?_
  rcases Int.lt_or_le b ((f0 + 1) * 4294967296 + b0) with g | g
  ·exact .inl g
  ·rcases Int.lt_or_le b ((f0 + 1) * 4294967296 + b0 + (b1 - b0 - 1) + 1) with g2 | g2
   ·refine absurd ?_ hn
    unfold frW
    omega
   ·exact .inr (.inl ⟨rfl,g2⟩)
 ·rw [if_neg h,if_neg h]
end
end Go.Proofs.YtmmfpkkamgapkaaGreat.X
