/- Contracts of Go functions: what each returns,for every input that its premises name; no memory of the caller is touched. Printed by a program. -/
import Derived.Test.YtmmfpkkamgapkaaGreatXt
import Derived.Test.YtmmfpkkamgapkaaGreatXq2
import Derived.Test.YtmmfpkkamgapkaaGreatXf2
import Derived.Test.YtmmfpkkamgapkaaGreatXr2a
import Derived.Test.YtmmfpkkamgapkaaGreatXr4a
import Derived.Test.YtmmfpkkamgapkaaGreatXr3
import Derived.Test.YtmmfpkkamgapkaaGreatXg5
namespace Go.Proofs.YtmmfpkkamgapkaaGreat.X
open Go Go.RowKit
set_option linter.unusedVariables false
set_option linter.unusedSimpArgs false
theorem rpart (n:Int)(hp0:I6 n):Pub Tryz.prog 87 [.i n] (fun rv=>rv = .u (IntKind.u16.wrap n)):=by
 refine pub_of TT_ok Tryz.func87 rfl (by decide) nk kr<|kb [] 1 [2,0] [] []<|xw_seq<|reg<|ka [] 1 0 [3,2,0] [] [] ?_
 by_cases h0:0<=n
 ·
  exact ka [(1,.i (n % 65536))] 2 1 [0,2] [] [⟨(65536:Int)≠0/\n.tmod 65536=(n % 65536),⟨om,tmod_eq om⟩⟩]<|en<|an<|xw_seq<|kB [(1,.f)] 2 ⟨[(6,.f),(0,.i (n % 65536)),(2,.u 0)],[],0⟩ [dF ((n % 65536)<0)]<|cf<|xw_skip<|an<|kb [(1,.i (n % 65536))] 3 [2] [] [w7 (n % 65536)]<|xw_ret<|br (.u (n % 65536)) (.u (IntKind.u16.wrap n)) (wk_s [(0,⟨((n % 65536):Int)=(IntKind.u16.wrap n),(by first | rfl | exact u16_pos om)⟩)]) rfl
 ·
  refine ka [(1,.i (-((-n) % 65536)))] 2 1 [0,2] [] [⟨(65536:Int)≠0/\n.tmod 65536=(-((-n) % 65536)),⟨om,tmod_ng om⟩⟩]<|en<|an<|xw_seq<|kB [(1,.bool (decide ((-((-n) % 65536))<0)))] 2 ⟨[(6,.bool (decide ((-((-n) % 65536))<0))),(0,.i (-((-n) % 65536))),(2,.u 0)],[],0⟩ [sf (decide ((-((-n) % 65536))<0))]<|xcD ((-((-n) % 65536))<0) (fun h1=>?_) (fun h1=>?_)
  ·
   exact kc [(1,.i ((-((-n) % 65536)) + 65536))] 3 [0,2] [] [w6 ((-((-n) % 65536)) + 65536)]<|an<|kb [(1,.i ((-((-n) % 65536)) + 65536))] 3 [2] [] [w7 ((-((-n) % 65536)) + 65536)]<|xw_ret<|br (.u ((-((-n) % 65536)) + 65536)) (.u (IntKind.u16.wrap n)) (wk_s [(0,⟨(((-((-n) % 65536)) + 65536):Int)=(IntKind.u16.wrap n),(by first | rfl | exact u16_pos om)⟩)]) rfl
  ·
   exact xw_skip<|an<|kb [(1,.i (-((-n) % 65536)))] 3 [2] [] [w7 (-((-n) % 65536))]<|xw_ret<|br (.u (-((-n) % 65536))) (.u (IntKind.u16.wrap n)) (wk_s [(0,⟨((-((-n) % 65536)):Int)=(IntKind.u16.wrap n),(by first | rfl | exact u16_pos om)⟩)]) rfl
theorem rsign (n:Int)(hp0:0<=n/\n<=65535):Pub Tryz.prog 86 [.u n] (fun rv=>rv = .i (IntKind.i16.wrap n)):=by
 refine pub_of TT_ok Tryz.func86 rfl (by decide) nk kr<|kb [] 1 [2,0] [] []<|xw_seq<|kb [(1,.bool (decide (32768<=n)))] 2 [4,2,0] [] [sf (decide (32768<=n))]<|xcD (32768<=n) (fun h0=>?_) (fun h0=>?_)
 ·
  exact kb [(1,.i n),(2,.i (n - 65536))] 4 [2,0] [] [w6 n,w6 (n - 65536)]<|xw_ret<|an_ret<|br (.i (n - 65536)) (.i (IntKind.i16.wrap n)) (wk_s [(0,⟨((n - 65536):Int)=(IntKind.i16.wrap n),(by first | rfl | exact i16_lo om | exact i16_hi om)⟩)]) rfl
 ·
  exact xw_skip<|an<|kb [(1,.i n)] 3 [2] [] [w6 n]<|xw_ret<|br (.i n) (.i (IntKind.i16.wrap n)) (wk_s [(0,⟨(n:Int)=(IntKind.i16.wrap n),(by first | rfl | exact i16_lo om | exact i16_hi om)⟩)]) rfl
theorem rparts (w:Int)(hp0:U6 w):Pub Tryz.prog 66 [.u w] (fun rv=>rv = .tup [.i (IntKind.i16.wrap (w / 65536)),.i (IntKind.i16.wrap w)]):=by
 refine pub_of TT_ok Tryz.func66 rfl (by decide) nk kr<|kb [] 2 [3,2,0] [] []<|xw_seq<|reg<|ka [(1,.i (w / 65536)),(2,.i ((w / 65536) % 65536))] 3 0 [6,3,2,0] [] [⟨(65536:Int)≠0/\IntKind.u64.wrap (w.tdiv 65536)=(w / 65536),⟨om,u64_tdiv om om om⟩⟩,⟨(65536:Int)≠0/\(w / 65536).tmod 65536=((w / 65536) % 65536),⟨om,tmod_eq om⟩⟩]<|pc (rsign ((w / 65536) % 65536) om) ?_
 have h0 : -32768<=(IntKind.i16.wrap ((w / 65536) % 65536))/\(IntKind.i16.wrap ((w / 65536) % 65536))<=32767:=wrap_i16 _
 refine ka [(5,.i (w % 65536))] 2 4 [9,7,3,2] [] [⟨(65536:Int)≠0/\w.tmod 65536=(w % 65536),⟨om,tmod_eq om⟩⟩]<|pc (rsign (w % 65536) om) ?_
 have h1 : -32768<=(IntKind.i16.wrap (w % 65536))/\(IntKind.i16.wrap (w % 65536))<=32767:=wrap_i16 _
 exact kA [] 2 7 ⟨[(3,.i (IntKind.i16.wrap (w % 65536))),(2,.i (IntKind.i16.wrap ((w / 65536) % 65536)))],[],0⟩ []<|en<|an<|xw_ret<|br (.tup [.i (IntKind.i16.wrap ((w / 65536) % 65536)),.i (IntKind.i16.wrap (w % 65536))]) (.tup [.i (IntKind.i16.wrap (w / 65536)),.i (IntKind.i16.wrap w)]) (wk_s [(0,⟨((IntKind.i16.wrap ((w / 65536) % 65536)):Int)=(IntKind.i16.wrap (w / 65536)),(by first | rfl | exact i16_mod)⟩),(1,⟨((IntKind.i16.wrap (w % 65536)):Int)=(IntKind.i16.wrap w),(by first | rfl | exact i16_mod)⟩)]) rfl
theorem rpack (x y:Int)(hp0:I6 x)(hp1:I6 y):Pub Tryz.prog 67 [.i x,.i y] (fun rv=>rv = .u (pkN x y)):=by
 refine pub_of TT_ok Tryz.func67 rfl (by decide) nk kr<|kb [] 1 [4,0,1] [] []<|xw_seq<|reg<|ka [] 1 0 [5,4,1] [] []<|pc (rpart x ZZ) ?_
 have h0:0<=(IntKind.u16.wrap x)/\(IntKind.u16.wrap x)<=65535:=wrap_u16 _
 refine ka [(2,.i (65536 * (IntKind.u16.wrap x)))] 2 2 [8,7,4] [] [w7 (65536 * (IntKind.u16.wrap x))]<|pc (rpart y ZZ) ?_
 have h1:0<=(IntKind.u16.wrap y)/\(IntKind.u16.wrap y)<=65535:=wrap_u16 _
 exact kA [(5,.i ((65536 * (IntKind.u16.wrap x)) + (IntKind.u16.wrap y)))] 2 5 ⟨[(4,.u ((65536 * (IntKind.u16.wrap x)) + (IntKind.u16.wrap y)))],[],0⟩ [w7 ((65536 * (IntKind.u16.wrap x)) + (IntKind.u16.wrap y))]<|en<|an<|xw_ret<|br (.u ((65536 * (IntKind.u16.wrap x)) + (IntKind.u16.wrap y))) (.u (pkN x y)) (wk_s [(0,⟨(((65536 * (IntKind.u16.wrap x)) + (IntKind.u16.wrap y)):Int)=(pkN x y),(by first | rfl | exact pk_ref _ _)⟩)]) rfl
theorem radd (a b:Int)(hp0:U6 a)(hp1:U6 b):Pub Tryz.prog 34 [.u a,.u b] (fun rv=>rv = .u (nAd a b)):=by
 refine pub_of TT_ok Tryz.func34 rfl (by decide) nk kr<|kb [] 1 [4,0,1] [] []<|xw_seq<|reg<|ka [] 1 0 [10,4,1] [] []<|pc (rparts a ZZ) ?_
 have h0 : -32768<=(IntKind.i16.wrap (a / 65536))/\(IntKind.i16.wrap (a / 65536))<=32767:=wrap_i16 _
 have h1 : -32768<=(IntKind.i16.wrap a)/\(IntKind.i16.wrap a)<=32767:=wrap_i16 _
 refine ka [] 5 2 [6,5,4,1] [] []<|en<|an<|xw_seq<|reg<|kA [] 1 0 ⟨[(15,.u b),(6,.i (IntKind.i16.wrap a)),(5,.i (IntKind.i16.wrap (a / 65536))),(4,.u 0)],[],0⟩ []<|pc (rparts b ZZ) ?_
 have h2 : -32768<=(IntKind.i16.wrap (b / 65536))/\(IntKind.i16.wrap (b / 65536))<=32767:=wrap_i16 _
 have h3 : -32768<=(IntKind.i16.wrap b)/\(IntKind.i16.wrap b)<=32767:=wrap_i16 _
 refine ka [] 5 2 [8,7,6,5,4] [] []<|en<|an<|xw_seq<|reg<|ka [(2,.i ((IntKind.i16.wrap (a / 65536)) + (IntKind.i16.wrap (b / 65536)))),(5,.i ((IntKind.i16.wrap a) + (IntKind.i16.wrap b)))] 6 0 [24,21,4] [] [w6 ((IntKind.i16.wrap (a / 65536)) + (IntKind.i16.wrap (b / 65536))),w6 ((IntKind.i16.wrap a) + (IntKind.i16.wrap b))]<|pc (rpack ((IntKind.i16.wrap (a / 65536)) + (IntKind.i16.wrap (b / 65536))) ((IntKind.i16.wrap a) + (IntKind.i16.wrap b)) om om) ?_
 have h4:U6 (pkN ((IntKind.i16.wrap (a / 65536)) + (IntKind.i16.wrap (b / 65536))) ((IntKind.i16.wrap a) + (IntKind.i16.wrap b))):=pkN_ok _ _
 exact ka [] 1 7 [4] [] []<|en<|an<|xw_ret<|br (.u (pkN ((IntKind.i16.wrap (a / 65536)) + (IntKind.i16.wrap (b / 65536))) ((IntKind.i16.wrap a) + (IntKind.i16.wrap b)))) (.u (nAd a b)) (wk_s [(0,⟨((pkN ((IntKind.i16.wrap (a / 65536)) + (IntKind.i16.wrap (b / 65536))) ((IntKind.i16.wrap a) + (IntKind.i16.wrap b))):Int)=(nAd a b),(by first | rfl | (unfold nAd nMu; rfl) | exact rfl)⟩)]) rfl
set_option maxHeartbeats 8000000 in
theorem rmul (a b:Int)(hp0:U6 a)(hp1:U6 b):Pub Tryz.prog 35 [.u a,.u b] (fun rv=>rv = .u (nMu a b)):=by
 refine pub_of TT_ok Tryz.func35 rfl (by decide) nk kr<|kb [] 1 [4,0,1] [] []<|xw_seq<|reg<|ka [] 1 0 [10,4,1] [] []<|pc (rparts a ZZ) ?_
 have h0 : -32768<=(IntKind.i16.wrap (a / 65536))/\(IntKind.i16.wrap (a / 65536))<=32767:=wrap_i16 _
 have h1 : -32768<=(IntKind.i16.wrap a)/\(IntKind.i16.wrap a)<=32767:=wrap_i16 _
 refine ka [] 5 2 [6,5,4,1] [] []<|en<|an<|xw_seq<|reg<|kA [] 1 0 ⟨[(15,.u b),(6,.i (IntKind.i16.wrap a)),(5,.i (IntKind.i16.wrap (a / 65536))),(4,.u 0)],[],0⟩ []<|pc (rparts b ZZ) ?_
 have h2 : -32768<=(IntKind.i16.wrap (b / 65536))/\(IntKind.i16.wrap (b / 65536))<=32767:=wrap_i16 _
 have h3 : -32768<=(IntKind.i16.wrap b)/\(IntKind.i16.wrap b)<=32767:=wrap_i16 _
 have h4 : -1073741824<=(IntKind.i16.wrap (a / 65536)) * (IntKind.i16.wrap (b / 65536))/\(IntKind.i16.wrap (a / 65536)) * (IntKind.i16.wrap (b / 65536))<=1073741824:=sm_mul om om
 have h5 : -1073741824<=(IntKind.i16.wrap (a / 65536)) * (IntKind.i16.wrap b)/\(IntKind.i16.wrap (a / 65536)) * (IntKind.i16.wrap b)<=1073741824:=sm_mul om om
 have h6 : -1073741824<=(IntKind.i16.wrap a) * (IntKind.i16.wrap (b / 65536))/\(IntKind.i16.wrap a) * (IntKind.i16.wrap (b / 65536))<=1073741824:=sm_mul om om
 have h7 : -1073741824<=(IntKind.i16.wrap a) * (IntKind.i16.wrap b)/\(IntKind.i16.wrap a) * (IntKind.i16.wrap b)<=1073741824:=sm_mul om om
 refine ka [] 5 2 [8,7,6,5,4] [] []<|en<|an<|xw_seq<|reg<|ka [(2,.i ((IntKind.i16.wrap (a / 65536)) * (IntKind.i16.wrap (b / 65536)))),(5,.i ((IntKind.i16.wrap a) * (IntKind.i16.wrap b))),(6,.i (((IntKind.i16.wrap (a / 65536)) * (IntKind.i16.wrap (b / 65536))) - ((IntKind.i16.wrap a) * (IntKind.i16.wrap b)))),(9,.i ((IntKind.i16.wrap (a / 65536)) * (IntKind.i16.wrap b))),(12,.i ((IntKind.i16.wrap a) * (IntKind.i16.wrap (b / 65536)))),(13,.i (((IntKind.i16.wrap (a / 65536)) * (IntKind.i16.wrap b)) + ((IntKind.i16.wrap a) * (IntKind.i16.wrap (b / 65536)))))] 14 0 [32,25,4] [] [w6 ((IntKind.i16.wrap (a / 65536)) * (IntKind.i16.wrap (b / 65536))),w6 ((IntKind.i16.wrap a) * (IntKind.i16.wrap b)),w6 (((IntKind.i16.wrap (a / 65536)) * (IntKind.i16.wrap (b / 65536))) - ((IntKind.i16.wrap a) * (IntKind.i16.wrap b))),w6 ((IntKind.i16.wrap (a / 65536)) * (IntKind.i16.wrap b)),w6 ((IntKind.i16.wrap a) * (IntKind.i16.wrap (b / 65536))),w6 (((IntKind.i16.wrap (a / 65536)) * (IntKind.i16.wrap b)) + ((IntKind.i16.wrap a) * (IntKind.i16.wrap (b / 65536))))]<|pc (rpack (((IntKind.i16.wrap (a / 65536)) * (IntKind.i16.wrap (b / 65536))) - ((IntKind.i16.wrap a) * (IntKind.i16.wrap b))) (((IntKind.i16.wrap (a / 65536)) * (IntKind.i16.wrap b)) + ((IntKind.i16.wrap a) * (IntKind.i16.wrap (b / 65536)))) om om) ?_
 have h8:U6 (pkN (((IntKind.i16.wrap (a / 65536)) * (IntKind.i16.wrap (b / 65536))) - ((IntKind.i16.wrap a) * (IntKind.i16.wrap b))) (((IntKind.i16.wrap (a / 65536)) * (IntKind.i16.wrap b)) + ((IntKind.i16.wrap a) * (IntKind.i16.wrap (b / 65536))))):=pkN_ok _ _
 exact ka [] 1 15 [4] [] []<|en<|an<|xw_ret<|br (.u (pkN (((IntKind.i16.wrap (a / 65536)) * (IntKind.i16.wrap (b / 65536))) - ((IntKind.i16.wrap a) * (IntKind.i16.wrap b))) (((IntKind.i16.wrap (a / 65536)) * (IntKind.i16.wrap b)) + ((IntKind.i16.wrap a) * (IntKind.i16.wrap (b / 65536)))))) (.u (nMu a b)) (wk_s [(0,⟨((pkN (((IntKind.i16.wrap (a / 65536)) * (IntKind.i16.wrap (b / 65536))) - ((IntKind.i16.wrap a) * (IntKind.i16.wrap b))) (((IntKind.i16.wrap (a / 65536)) * (IntKind.i16.wrap b)) + ((IntKind.i16.wrap a) * (IntKind.i16.wrap (b / 65536))))):Int)=(nMu a b),(by first | rfl | (unfold nAd nMu; rfl) | exact rfl)⟩)]) rfl
set_option linter.unusedVariables false
set_option linter.unusedSimpArgs false
abbrev V14(ns:List Nd):=List.map nodeS ns
abbrev V18(ss:List (List Int)):=List.map rowI ss
abbrev V1(ns:List Nd)(ss:List (List Int)):List SV:=[.sl false 4 (V14 ns),.sl false 1 (V18 ss)]
abbrev V2(ns:List Nd)(ss:List (List Int))(th h:Int):=ndA ns ((ix (rowG ss th) h) - 1)
abbrev V3(k h i j v t f m:Int):Nat×Blk:=(1,.cells [.i k,.i h,.i i,.i j,.u v,.i t,.i f,.u m] 60)
abbrev V4:=List.map rowI []
abbrev V23(ns:List Nd)(ss:List (List Int))(th h:Int):=Nd.f (V2 ns ss th h)
abbrev V5(ns:List Nd)(ss:List (List Int))(th h:Int):List SV:=[.i (Nd.t (V2 ns ss th h)),.i (Nd.l (V2 ns ss th h)),.u (Nd.m (V2 ns ss th h)),.sl false 1 (m64 (V23 ns ss th h))]
abbrev V6:Nat×Blk:=(3,.cells [.i 0,.u 0,.f] 54)
abbrev V15(ns:List Nd)(ss:List (List Int)):Nat×Blk:=(0,.cells (V1 ns ss) 46)
abbrev V35(ns:List Nd):Nat×Blk:=(7,.row 4 68 (V14 ns))
abbrev V16(ss:List (List Int))(i1:Int):=List.map rowI (ss.take (Int.toNat i1))
abbrev V20:Nat×Blk:=(2,.cells [.own 12,.own 13] 46)
abbrev V7(ss:List (List Int))(i1:Int)(ns:List Nd)(k h i j v t f m:Int):Mem:=[(13,.row 1 29 V4),(12,.row 1 29 V4),(11,.row 1 29 V4),(10,.row 1 29 V4),(9,.row 1 29 (V16 ss i1)),(8,.cells [.own 7,.own 9] 46),(V35 ns),(5,.cells [.own 10,.own 11] 46),(4,.cells (V1 ns ss) 46),V6,V20,(V3 k h i j v t f m),(V15 ns ss)]
abbrev V8(ss:List (List Int))(i1:Int):=List.map (SV.int .i64) (rowG ss i1)
abbrev V9(t f m:Int):=Nd.mk t f m (List.replicate (Int.toNat f) 0)
abbrev V29(ss:List (List Int))(i1:Int):=List.map rowI [(rowG ss i1)]
abbrev V10(ss:List (List Int))(i1:Int)(ns:List Nd)(k h i j v t f m:Int):Mem:=[(15,.row 1 29 (((V16 ss i1))++((V29 ss i1)))),(13,.row 1 29 V4),(12,.row 1 29 V4),(11,.row 1 29 V4),(10,.row 1 29 V4),(8,.cells [.own 7,.own 15] 46),(V35 ns),(5,.cells [.own 10,.own 11] 46),(4,.cells (V1 ns ss) 46),V6,V20,(V3 k h i j v t f m),(V15 ns ss)]
abbrev V11(ss:List (List Int))(i1:Int)(ns:List Nd)(k h i j v t f m:Int):Mem:=[(15,.row 1 29 (((V16 ss i1))++((V29 ss i1)))),(13,.row 1 29 V4),(12,.row 1 29 V4),(11,.row 1 29 V4),(10,.row 1 29 V4),(8,.cells [.own 7,.own 9] 46),(V35 ns),(5,.cells [.own 10,.own 11] 46),(4,.cells (V1 ns ss) 46),V6,V20,(V3 k h i j v t f m),(V15 ns ss)]
abbrev V12(ss:List (List Int))(i1:Int)(ns:List Nd)(k h i j v t f m:Int):Mem:=[(14,.row 1 3 []),(13,.row 1 29 V4),(12,.row 1 29 V4),(11,.row 1 29 V4),(10,.row 1 29 V4),(9,.row 1 29 (V16 ss i1)),(8,.cells [.own 7,.own 9] 46),(V35 ns),(5,.cells [.own 10,.own 11] 46),(4,.cells (V1 ns ss) 46),V6,V20,(V3 k h i j v t f m),(V15 ns ss)]
abbrev V13:Nat×Blk:=(2,.cells [.nils,.nils] 46)
abbrev V17(ss:List (List Int))(th:Int):=List.map (SV.int .i64) ((rowG ss th).take (((((rowG ss th).length:Int) - 1):Int).toNat))
abbrev V19(ns:List Nd)(ss:List (List Int))(th h i:Int):List SV:=[.sl false 4 (V14 ns),.sl false 1 (List.map rowI (List.set ss (Int.toNat th) ((rowG ss th)++[(ix (V23 ns ss th h) i)])))]
abbrev V21(ss:List (List Int))(i1:Int):List (Nat×SV):=[(28,.loc 8 1),(27,.own 15),(26,.sl false 1 (V29 ss i1)),(25,.sl false 1 (V8 ss i1)),(25,.sl false 1 (([])++((V8 ss i1)))),(24,.sl false 1 (V8 ss i1)),(23,.elt (.sl false 1 (V8 ss i1))),(22,.i i1),(21,.sl false 1 (V18 ss)),(20,.loc 4 1),(19,.own 14),(18,.own 9),(17,.loc 8 1),(14,.bool (decide (i1<((ss).length:Int)))),(4,.i i1),(3,.p 8),(2,.p 5),(1,.p 4)]
abbrev V22(ns:List Nd)(ss:List (List Int))(th h i:Int):List SV:=[.agg (V1 ns ss),.agg [.i (gfE ns (rowG ss th) h i false),.u 0,.f]]
abbrev V24(ss:List (List Int))(i1:Int)(ns:List Nd)(k h i j v t f m:Int):Mem:=[(13,.row 1 29 V4),(12,.row 1 29 V4),(11,.row 1 29 V4),(10,.row 1 29 V4),(9,.row 1 29 (V16 ss i1)),(8,.cells [.own 7,.own 9] 46),(V35 ns),(5,.cells [.own 10,.own 11] 46),(4,.cells (V1 ns ss) 46),(3,.cells [.int .i64 0,.int .u64 0,.bool false] 54),V20,(1,.cells [.int .i64 k,.int .i64 h,.int .i64 i,.int .i64 j,.int .u64 v,.int .i64 t,.int .i64 f,.int .u64 m] 60),(V15 ns ss)]
abbrev V25(ss:List (List Int))(i1:Int):List (Nat×SV):=[(25,.sl false 1 (([])++((V8 ss i1)))),(24,.sl false 1 (V8 ss i1)),(23,.elt (.sl false 1 (V8 ss i1))),(22,.i i1),(21,.sl false 1 (V18 ss)),(20,.loc 4 1),(19,.own 14),(18,.own 9),(17,.loc 8 1),(14,.bool (decide (i1<((ss).length:Int)))),(4,.i i1),(3,.p 8),(2,.p 5),(1,.p 4)]
abbrev V26(ss:List (List Int))(th h:Int):=List.map rowI (List.set ss (Int.toNat th) ((rowG ss th)++[(ix (rowG ss th) h)]))
abbrev V27(ss:List (List Int))(i1:Int):List (Nat×SV):=[(23,.elt (.sl false 1 (V8 ss i1))),(22,.i i1),(21,.sl false 1 (V18 ss)),(20,.loc 4 1),(19,.own 14),(18,.own 9),(17,.loc 8 1),(14,.bool (decide (i1<((ss).length:Int)))),(4,.i i1),(3,.p 8),(2,.p 5),(1,.p 4)]
abbrev V28(ss:List (List Int))(th:Int):=List.map (SV.int .i64) (rowG ss th)
abbrev V30:Nat×Blk:=(14,.cells [.own 7,.own 9] 46)
abbrev V31(t f m:Int):=List.map nodeS [(V9 t f m)]
abbrev V32(ss:List (List Int))(i1:Int):=List.map rowI ((ss.take (Int.toNat i1))++[(rowG ss i1)])
abbrev V33(ss:List (List Int))(th:Int):Nat×Blk:=(9,.row 1 29 (((V18 ss)).set ((th:Int).toNat) (.sl false 1 (V17 ss th))))
abbrev V34(ns:List Nd)(t f m:Int):=List.map nodeS (ns++[(V9 t f m)])
abbrev V36(ns:List Nd)(ss:List (List Int))(th h i:Int):List SV:=[.agg (V1 ns ss),.agg [.i (gfE ns (rowG ss th) h i true),.u 0,.f]]
abbrev V37(ss:List (List Int))(th:Int)(ns:List Nd)(t f m:Int):=List.map rowI (List.set ss (Int.toNat th) ((rowG ss th)++[(((ns++[(V9 t f m)])).length:Int)]))
theorem Vo{p:Prop}(h:p:=by first|omega|(simp only [V14,V18,V1,V2,V3,V4,V23,V5,V6,V15,V35,V16,V20,V7,V8,V9,V29,V10,V11,V12,V13,V17,V19,V21,V22,V24,V25,V26,V27,V28,V30,V31,V32,V33,V34,V36,V37] at *;first|omega|assumption|(simp;done)|(simp;omega))):p:=h
theorem Vb2{p:Prop}(h:p:=by first | rfl | exact List.map_set.symm | (simp; done)):p:=h
theorem Vb1{p:Prop}(h:p:=by first | rfl | exact congrArg _ (takeG_next om om) | omega | (simp; done)):p:=h
set_option maxHeartbeats 8000000 in
theorem Vcb1{p:Prop}(h:p:=by (try simp only [V14,V18,V1,V2,V3,V4,V23,V5,V6,V15,V35,V16,V20,V7,V8,V9,V29,V10,V11,V12,V13,V17,V19,V21,V22,V24,V25,V26,V27,V28,V30,V31,V32,V33,V34,V36,V37] at *);rw [List.take_of_length_le om]):p:=h
set_option maxHeartbeats 8000000 in
theorem gstep (ns:List Nd)(ss:List (List Int))(th k h i j v t f m:Int)(hp0:Nds ns)(hp1:(ns.length:Int) * 48 + 48<=140737488355000)(hp2:RIs ss)(hp3:(ss.length:Int) * 24<=140737488355000)(hp4:GOk ns ss)(hp5:0<=th/\th<(ss.length:Int))(hp6:I6 k)(hp7:I6 h)(hp8:I6 i)(hp9:I6 j)(hp10:I6 t)(hp11:I6 f)(hp12:U6 v)(hp13:U6 m):Pub Tryz.prog 11 [.agg (V1 ns ss),.i th,.agg [.i k,.i h,.i i,.i j,.u v,.i t,.i f,.u m]] (fun rv=>rv = .tup [.agg [.sl false 4 (List.map nodeS (GR.ns (gDo ns ss th (OpV.mk k h i j v t f m)))),.sl false 1 (List.map rowI (GR.ss (gDo ns ss th (OpV.mk k h i j v t f m))))],.agg [.i (GR.e (gDo ns ss th (OpV.mk k h i j v t f m))),.u (GR.v (gDo ns ss th (OpV.mk k h i j v t f m))),.bool (GR.y (gDo ns ss th (OpV.mk k h i j v t f m)))]]):=by
 refine pub_of TT_ok Tryz.func11 rfl (by decide) nk kr<|kb [] 4 [7,6,5,3,1] [3,2,1,0] []<|xw_seq<|xw_seq<|reg<|ka [(1,.f),(6,.i ((ss).length:Int)),(7,.f),(12,.bool (decide (k<1)))] 15 0 [42,7,6,5,3,1] [3,2,1,0] [dF (th<0),tr,l6 rowI ss,dF (((ss).length:Int)<=th),tr,tr,sf (decide (k<1)),tr]<|splitr 42 (x:=(decide (k<1))) kr (fun h0=>?_) (fun h0=>?_)
 ·
  replace h0:k<1:=of_decide_eq_true h0
  refine ka [] 4 15 [46,7,6,5,3,1] [3,2,1,0] [tr]<|en<|an<|ct<|xw_seq<|reg<|ka [] 1 0 [47,7,6,5,3,1] [3,2,1,0] [tr]<|callx (f:=29) (args:=[.agg (V1 ns ss),.i 1]) (d:=(some 48)) kr (xcall_of TT_ok Tryz.func29 rfl (by decide) nk ?_)
  refine kb [] 3 [5,4,2,1] [6,5,4,3,2,1,0] []<|kb [] 5 [5,4] [6,5,3,2,1,0] [tr,tr,tr]<|xw_ret<|⟨.tup [.agg (V1 ns ss),.agg [.i 1,.u 0,.f]],kr,?_⟩
  exact ka [] 4 2 [7,6,5,3,1] [3,2,1,0] [tr,tr]<|en<|an<|xw_ret<|an_ret<|bs (.tup [.agg (V1 ns ss),.agg [.i 1,.u 0,.f]]) (gl (gd_arg om))
 ·
  replace h0:¬ (k<1):=of_decide_eq_false h0
  refine ka [(17,.bool (decide (11<k)))] 4 15 [46,7,6,5,3,1] [3,2,1,0] [tr,sf (decide (11<k)),tr]<|en<|an<|xcD (11<k) (fun h1=>?_) (fun h1=>?_)
  ·
   refine xw_seq<|reg<|ka [] 1 0 [47,7,6,5,3,1] [3,2,1,0] [tr]<|callx (f:=29) (args:=[.agg (V1 ns ss),.i 1]) (d:=(some 48)) kr (xcall_of TT_ok Tryz.func29 rfl (by decide) nk ?_)
   refine kb [] 3 [5,4,2,1] [6,5,4,3,2,1,0] []<|kb [] 5 [5,4] [6,5,3,2,1,0] [tr,tr,tr]<|xw_ret<|⟨.tup [.agg (V1 ns ss),.agg [.i 1,.u 0,.f]],kr,?_⟩
   exact ka [] 4 2 [7,6,5,3,1] [3,2,1,0] [tr,tr]<|en<|an<|xw_ret<|an_ret<|bs (.tup [.agg (V1 ns ss),.agg [.i 1,.u 0,.f]]) (gl (gd_arg om))
  ·
   refine xw_skip<|an<|xw_seq<|kb [(2,.bool (k == 1))] 3 [53,7,6,5,3,1] [3,2,1,0] [tr,sf (k == 1)]<|xcE k 1 (fun h2=>?_) (fun h2=>?_)
   ·
    refine xw_seq<|xw_seq<|reg<|ka [] 2 0 [55,7,6,5,3,1] [3,2,1,0] [tr] ?_
    by_cases h3:(t=255/\0<=f/\f<=65535/\m=0)\/(1<=t/\t<=200/\0<=f/\f<=16/\m<2 ^ (Int.toNat f)/\m<65536)
    ·
     refine pc (rhright_1 t f m ZZ ZZ ZZ ZZ)<|ka [(3,.f),(8,.bool (t == 255))] 7 3 [63,7,6,5,3,1] [3,2,1,0] [nF 0 0,tr,sf (t == 255),tr]<|en<|an<|xcE t 255 (fun h4=>?_) (fun h4=>?_)
     ·
      refine xw_seq<|reg<|ka [] 1 0 [64,7,6,5,3,1] [3,2,1,0] [tr]<|callx (f:=29) (args:=[.agg (V1 ns ss),.i 1]) (d:=(some 65)) kr (xcall_of TT_ok Tryz.func29 rfl (by decide) nk ?_)
      refine kb [] 3 [5,4,2,1] [6,5,4,3,2,1,0] []<|kB [] 5 ⟨[(5,.p 6),(4,.p 5)],[(6,.cells [.i 1,.u 0,.f] 54),(5,.cells (V1 ns ss) 46),V6,V13,(V3 k h i j v t f m),(V15 ns ss)],7⟩ [tr,tr,tr]<|xw_ret<|⟨.tup [.agg (V1 ns ss),.agg [.i 1,.u 0,.f]],kr,?_⟩
      exact ka [] 4 2 [7,6,5,3,1] [3,2,1,0] [tr,tr]<|en<|an<|xw_ret<|an_ret<|an_ret<|bs (.tup [.agg (V1 ns ss),.agg [.i 1,.u 0,.f]]) (gl (gd_head om (.inr om)))
     ·
      refine xw_skip<|an<|xw_seq<|reg<|ka [] 1 0 [68,7,6,5,3,1] [3,2,1,0] [tr]<|callx (f:=31) (args:=[.agg (V1 ns ss)]) (d:=(some 69)) kr (xcall_of TT_ok Tryz.func31 rfl (by decide) nk ?_)
      refine kb [] 2 [2,1] [5,4,3,2,1,0] []<|xw_seq<|reg<|kA [] 4 0 ⟨[(8,.own 7),(2,.p 5),(1,.p 4)],[(7,.row 4 68 (([])++((V14 ns)))),(5,.cells [.nils,.nils] 46),(4,.cells (V1 ns ss) 46),V6,V13,(V3 k h i j v t f m),(V15 ns ss)],8⟩ [tr,⟨(∀ y∈((V14 ns):List SV),ElemOk y)/\(false=true->1<=((V14 ns):List SV).length/\∀ x∈([] : List SV),ElemOk x)/\(([] : List SV).length + ((V14 ns):List SV).length) * 48<=140737488355328/\([] : List SV).length + ((V14 ns):List SV).length<=4611686018427387904,⟨elem_nd,(fun h=>by cases h),lw,lw⟩⟩]<|setr 7 (z:=4) (E:=68) (L:=(([])++((V14 ns)))) (L':=(V14 ns)) kr nil_app<|ka [] 3 4 [3,2,1] [8,7,5,4,3,2,1,0] [tr]<|en<|an<|xw_seq<|kb [] 1 [4,3,2,1] [8,7,5,4,3,2,1,0] []<|xw_block<|xw_nilcell 8 1 1 29 46 (l:=[.own 7,.nils]) kr kr<|xw_nilcell 5 0 1 29 46 (l:=[.nils,.nils]) kr kr<|xw_nilcell 5 1 1 29 46 (l:=[.own 10,.nils]) kr kr<|xw_nilcell 2 0 1 29 46 (l:=[.nils,.nils]) kr kr<|xw_nilcell 2 1 1 29 46 (l:=[.own 12,.nils]) kr kr<|xw_loop (α:={q:Int // (0<=q)/\(q<=(ss.length:Int))}) (fun p=>⟨[(4,.i p.1),(3,.p 8),(2,.p 5),(1,.p 4)],[(13,.row 1 29 V4),(12,.row 1 29 V4),(11,.row 1 29 V4),(10,.row 1 29 V4),(9,.row 1 29 (List.map rowI (ss.take (Int.toNat p.1)))),(8,.cells [.own 7,.own 9] 46),(V35 ns),(5,.cells [.own 10,.own 11] 46),(4,.cells (V1 ns ss) 46),V6,V20,(V3 k h i j v t f m),(V15 ns ss)],14⟩) (fun p=>((ss.length:Int) - p.1).toNat) ⟨0,⟨om,om⟩⟩ (le_s [] [(5,⟨(V4:List SV)=(List.map rowI (ss.take (Int.toNat 0))),Vb1⟩)]) ?_
      rintro ⟨i1,h5,h6⟩
      show XW _ _ _ _ _ _ ⟨[(4,.int .i64 i1),(3,.loc 8 0),(2,.loc 5 0),(1,.loc 4 0)],(V24 ss i1 ns k h i j v t f m),14⟩
      refine xw_seq<|kb [(3,.i ((ss).length:Int)),(4,.bool (decide (i1<((ss).length:Int))))] 5 [14,4,3,2,1] [13,12,11,10,9,8,7,5,4,3,2,1,0] [tr,l6 rowI ss,sf (decide (i1<((ss).length:Int)))]<|xcD (i1<((ss).length:Int)) (fun h7=>?_) (fun h7=>?_)
      ·
       refine xw_skip<|an<|xw_seq<|xw_block<|ureg hmix [14,15] [⟨(V7 ss i1 ns k h i j v t f m),[],[14,15]⟩,⟨(V12 ss i1 ns k h i j v t f m),[2],[15]⟩,⟨(V7 ss i1 ns k h i j v t f m),[2,8],[15]⟩,⟨(V11 ss i1 ns k h i j v t f m),[2,8,10],[]⟩,⟨(V10 ss i1 ns k h i j v t f m),[2,8,10,12],[]⟩] [2,8,10,12] [(1,[0]),(4,[3]),(6,[3,4,5]),(7,[3,4,5,6]),(8,[2,3,4,5,6,7]),(9,[2,3,4,5,6,7,8]),(10,[0,1,2,3,4,5,6,7,8,9]),(11,[0,1,2,3,4,5,6,7,8,9,10]),(12,[0,1,2,3,4,5,6,7,8,9,10,11])] 4 16 kr<|urun_ TT_ok [(2,.own 14),(6,.sl false 1 (V8 ss i1))] nk kr 7 0 (V27 ss i1) [sm (SV.loc 8 1),True,sm (SV.loc 8 1),True,True,sm (SV.own 9),True,sm (SV.own 9),True,True,sm ((V12 ss i1 ns k h i j v t f m):Mem),sm (SV.loc 4 1),True,True,sm (SV.sl false 1 (V18 ss)),True,True,sm (SV.int .i64 i1),True,True,sm (SV.elt (.sl false 1 (V8 ss i1))),(0:Int)<=i1/\i1<((((V18 ss)).length:Nat):Int)/\((V18 ss))[(i1:Int).toNat]? = some (.sl false 1 (V8 ss i1)),(0:Int)<=i1/\i1<((((V18 ss)).length:Nat):Int)/\((V18 ss))[(i1:Int).toNat]? = some (.sl false 1 (V8 ss i1))] kr ⟨rfl,trivial,rfl,trivial,trivial,rfl,trivial,rfl,trivial,trivial,rfl,rfl,trivial,trivial,rfl,trivial,trivial,rfl,trivial,trivial,rfl,(ix_ri om lw),(ix_ri om lw),trivial⟩ ?_
       have h8:I64s (rowG ss i1):=(RIs.at rq _).1
       have h9:((rowG ss i1).length:Int) * 8<=140737488355000:=(RIs.at rq _).2
       exact urun_ TT_ok [(8,.t)] nk kr 2 7 (V25 ss i1) [sm (SV.sl false 1 (V8 ss i1)),True,True,(∀ y∈((V8 ss i1):List SV),ElemOk y)/\(false=true->1<=((V8 ss i1):List SV).length/\∀ x∈([] : List SV),ElemOk x)/\(([] : List SV).length + ((V8 ss i1):List SV).length) * 8<=140737488355328/\([] : List SV).length + ((V8 ss i1):List SV).length<=4611686018427387904,sm ((V7 ss i1 ns k h i j v t f m):Mem)] kr ⟨rfl,trivial,trivial,⟨elem_map,(fun h=>by cases h),lw,lw⟩,rfl,trivial⟩<|usets 25 (x:=false) (z:=1) (L:=(([])++((V8 ss i1)))) (L':=(V8 ss i1)) kr nil_app<|urun_ TT_ok [(9,.t),(10,.own 15)] nk kr 4 9 (V21 ss i1) [True,(∀ y∈((V29 ss i1):List SV),ElemOk y)/\(false=true->1<=((V29 ss i1):List SV).length/\∀ x∈((V16 ss i1):List SV),ElemOk x)/\(((V16 ss i1):List SV).length + ((V29 ss i1):List SV).length) * 24<=140737488355328/\((V16 ss i1):List SV).length + ((V29 ss i1):List SV).length<=4611686018427387904,sm ((V11 ss i1 ns k h i j v t f m):Mem),True,True,sm ((V10 ss i1 ns k h i j v t f m):Mem)] kr ⟨trivial,⟨elem_ri,(fun h=>by cases h),lw,lw⟩,rfl,trivial,trivial,rfl,trivial⟩<|uend<|ib<|an<|reg<|setr 15 (z:=1) (E:=29) (L:=(((V16 ss i1))++((V29 ss i1)))) (L':=(V32 ss i1)) kr mapf_app<|ka [(1,.i (i1 + 1))] 3 0 [4,3,2,1] [15,13,12,11,10,8,7,5,4,3,2,1,0] [w6 (i1 + 1)]<|en<|ag ⟨(i1 + 1),⟨om,om⟩⟩ (le_s [(9,15)] [(5,⟨((V32 ss i1):List SV)=(List.map rowI (ss.take (Int.toNat (i1 + 1)))),Vb1⟩)]) dm
      ·
       refine xw_exit<|an_exit<|ag_exit<|ib_same<|an<|kb [] 2 [2] [13,12,9,7,5,3,2,1,0] [tr,tr]<|xw_ret<|⟨.agg [.own 7,.own 9],kr,?_⟩
       refine ka [] 2 2 [8,7,6,5,3,1] [14,13,12,9,7,3,2,1,0] [tr]<|en<|an<|xw_seq<|sreg hmix [([V30,(13,.row 1 29 V4),(12,.row 1 29 V4),(9,.row 1 29 (V16 ss i1)),(V35 ns),V6,V20,(V3 k h i j v t f m),(V15 ns ss)],15),([(15,.row 4 68 (((V14 ns))++((V31 t f m)))),V30,(13,.row 1 29 V4),(12,.row 1 29 V4),(9,.row 1 29 (V16 ss i1)),V6,V20,(V3 k h i j v t f m),(V15 ns ss)],16),([(15,.row 4 68 (((V14 ns))++((V31 t f m)))),(14,.cells [.own 15,.own 9] 46),(13,.row 1 29 V4),(12,.row 1 29 V4),(9,.row 1 29 (V16 ss i1)),V6,V20,(V3 k h i j v t f m),(V15 ns ss)],16)] [10,12] [(1,[0]),(3,[2]),(5,[4]),(6,[4,5]),(7,[4,5,6]),(8,[2,3,4,5,6,7]),(9,[2,3,4,5,6,7,8]),(10,[0,1,2,3,4,5,6,7,8,9]),(11,[0,1,2,3,4,5,6,7,8,9,10]),(12,[0,1,2,3,4,5,6,7,8,9,10,11])] kr kr kr kr kr<|ke [(7,.t)] 8 0 [tr,tr,tr,tr,tr,tr,tr,⟨f=f/\0<=f/\f<=1099511627776/\((8:Nat):Int) * f<=140737488355328,(by refine ⟨rfl,?_,?_,?_⟩ <;> omega)⟩] ?_
       refine ssets 77 (x:=false) (z:=1) (L:=(List.replicate (Int.toNat f) (.u 0))) (L':=(m64 (List.replicate (Int.toNat f) 0))) kr rep_map<|ke [(9,.t)] 5 8 [tr,tr,⟨(∀ y∈((V31 t f m):List SV),ElemOk y)/\(false=true->1<=((V31 t f m):List SV).length/\∀ x∈((V14 ns):List SV),ElemOk x)/\(((V14 ns):List SV).length + ((V31 t f m):List SV).length) * 48<=140737488355328/\((V14 ns):List SV).length + ((V31 t f m):List SV).length<=4611686018427387904,⟨elem_nd,(fun h=>by cases h),lw,lw⟩⟩,sf ([(15,.row 4 68 (((V14 ns))++((V31 t f m)))),V30,(13,.row 1 29 V4),(12,.row 1 29 V4),(9,.row 1 29 (V16 ss i1)),V6,V20,(V3 k h i j v t f m),(V15 ns ss)] : Mem),sf (16:Nat),tr,tr,sf ([(15,.row 4 68 (((V14 ns))++((V31 t f m)))),(14,.cells [.own 15,.own 9] 46),(13,.row 1 29 V4),(12,.row 1 29 V4),(9,.row 1 29 (V16 ss i1)),V6,V20,(V3 k h i j v t f m),(V15 ns ss)] : Mem),sf (16:Nat)]<|sen<|an<|xw_seq<|reg<|setr 15 (z:=4) (E:=68) (L:=(((V14 ns))++((V31 t f m)))) (L':=(V34 ns t f m)) kr mapf_app<|xoi_sharec 14 15 (F:=46) (z:=4) (E:=68) (xs:=(V34 ns t f m)) (l:=[.own 15,.own 9]) kr kr<|setr 9 (z:=1) (E:=29) (L:=(V16 ss i1)) (L':=(V18 ss)) kr Vcb1<|xoi_sharec 14 9 (F:=46) (z:=1) (E:=29) (xs:=(V18 ss)) (l:=[.sl false 4 (V34 ns t f m),.own 9]) kr kr<|ka [(4,.i (((ns++[(V9 t f m)])).length:Int))] 5 0 [87,84,83,7,6,5,3,1] [13,12,3,2,1,0] [tr,tr,l6 nodeS (ns++[(V9 t f m)])] ?_
       have h8:Nds (ns++[(V9 t f m)]):=nds_new ZZ om om om
       have h9:GOk (ns++[(V9 t f m)]) ss:=gok_new ZZ om
       have h10:((ns++[(V9 t f m)]).length:Int)=(ns.length:Int) + 1:=by simp
       by_cases h11:16<=(((rowG ss th)).length:Int)
       ·
        refine pc (gpush_1 (ns++[(V9 t f m)]) ss th (((ns++[(V9 t f m)])).length:Int) ZZ om ZZ om ZZ ZZ om ZZ)<|ka [] 6 6 [10,9,7,6,5,3,1] [16,13,12,3,2,1,0] [tr]<|en<|an<|xw_seq<|kB [(1,.t)] 2 ⟨[(92,.t),(10,.i 4),(9,.p 16),(7,.p 3),(6,.p 2),(5,.p 1),(3,.p 0),(1,.i th)],[(16,.cells [.sl false 4 (V34 ns t f m),.sl false 1 (V18 ss)] 46),(13,.row 1 29 V4),(12,.row 1 29 V4),V6,V20,(V3 k h i j v t f m),(V15 ns ss)],17⟩ [nT 4 0]<|ct<|xw_seq<|reg<|ka [] 2 0 [94,93,9,7,6,5,3,1] [16,13,12,3,2,1,0] [tr]<|callx (f:=29) (args:=[.agg (V1 ns ss),.i 4]) (d:=(some 95)) kr (xcall_of TT_ok Tryz.func29 rfl (by decide) nk ?_)
        refine kb [] 3 [5,4,2,1] [19,18,17,16,13,12,3,2,1,0] []<|kb [] 5 [5,4] [19,18,16,13,12,3,2,1,0] [tr,tr,tr]<|xw_ret<|⟨.tup [.agg (V1 ns ss),.agg [.i 4,.u 0,.f]],kr,?_⟩
        exact ka [] 4 3 [9,7,6,5,3,1] [16,3,2,1,0] [tr,tr]<|en<|an<|xw_ret<|an_ret<|an_ret<|bs (.tup [.agg (V1 ns ss),.agg [.i 4,.u 0,.f]]) (gl (gd_full1 om (he0 om om) om om))
       ·
        exact pc (gpush_2 (ns++[(V9 t f m)]) ss th (((ns++[(V9 t f m)])).length:Int) ZZ om ZZ om ZZ ZZ om om)<|ka [] 6 6 [10,9,7,6,5,3,1] [16,13,12,3,2,1,0] [tr]<|en<|an<|xw_seq<|kB [(1,.f)] 2 ⟨[(92,.f),(10,.i 0),(9,.p 16),(7,.p 3),(6,.p 2),(5,.p 1),(3,.p 0),(1,.i th)],[(16,.cells [.sl false 4 (V34 ns t f m),.sl false 1 (V37 ss th ns t f m)] 46),(13,.row 1 29 V4),(12,.row 1 29 V4),V6,V20,(V3 k h i j v t f m),(V15 ns ss)],17⟩ [nF 0 0]<|cf<|xw_skip<|an<|kb [] 4 [7,6,5,3,1] [3,2,1,0] [tr,tr,tr]<|xw_ret<|an_ret<|br (.tup [.agg [.sl false 4 (V34 ns t f m),.sl false 1 (V37 ss th ns t f m)],.agg [.i 0,.u 0,.f]]) (.tup [.agg [.sl false 4 (V34 ns t f m),.sl false 1 (List.map rowI (List.set ss (Int.toNat th) ((rowG ss th)++[((ns.length:Int) + 1)])))],.agg [.i 0,.u 0,.f]]) (wk_s [(3,⟨(V37 ss th ns t f m)=(List.map rowI (List.set ss (Int.toNat th) ((rowG ss th)++[((ns.length:Int) + 1)]))),Vb2⟩)]) (gl (gd_new om (he0 om om) om om))
    ·
     refine pc (rhright_2 t f m ZZ ZZ ZZ ZZ) ?_
     have h4:(headErr t f m)≠0:=headErr_ne om om
     refine ka [(3,.t)] 7 3 [63,7,6,5,3,1] [3,2,1,0] [nT (headErr t f m) 0,tr]<|en<|an<|ct<|xw_seq<|reg<|ka [] 1 0 [64,7,6,5,3,1] [3,2,1,0] [tr]<|callx (f:=29) (args:=[.agg (V1 ns ss),.i 1]) (d:=(some 65)) kr (xcall_of TT_ok Tryz.func29 rfl (by decide) nk ?_)
     refine kb [] 3 [5,4,2,1] [6,5,4,3,2,1,0] []<|kB [] 5 ⟨[(5,.p 6),(4,.p 5)],[(6,.cells [.i 1,.u 0,.f] 54),(5,.cells (V1 ns ss) 46),V6,V13,(V3 k h i j v t f m),(V15 ns ss)],7⟩ [tr,tr,tr]<|xw_ret<|⟨.tup [.agg (V1 ns ss),.agg [.i 1,.u 0,.f]],kr,?_⟩
     exact ka [] 4 2 [7,6,5,3,1] [3,2,1,0] [tr,tr]<|en<|an<|xw_ret<|an_ret<|an_ret<|bs (.tup [.agg (V1 ns ss),.agg [.i 1,.u 0,.f]]) (gl (gd_head om (.inl ZZ)))
   ·
    refine xw_skip<|an<|xw_seq<|xw_seq<|reg<|ka [(2,.bool (k == 2))] 4 0 [103,7,6,5,3,1] [3,2,1,0] [tr,sf (k == 2)]<|splitr 103 (x:=(k == 2)) kr (fun h3=>?_) (fun h3=>?_)
    ·
     replace h3:k=2:=eq_of_beq h3
     refine ka [] 14 4 [117,7,6,5,3,1] [3,2,1,0] [tr,tr,tr]<|en<|an<|ct<|xw_seq<|reg<|ka [] 3 0 [121,120,119,7,6,5,3,1] [3,2,1,0] [tr,tr] ?_
     by_cases h4:(gfE ns (rowG ss th) h i false)=0
     ·
      refine pc (gfield_1 ns ss th k h i j v t f m false ZZ om ZZ om ZZ ZZ ZZ ZZ ZZ) ?_
      obtain ⟨h5,h6,h7,h8⟩:=gf_in ZZ om om
      refine ka [] 5 4 [12,11,7,6,5,3,1] [3,2,1,0] []<|en<|an<|xw_seq<|kB [(1,.f)] 2 ⟨[(126,.f),(12,.i 0),(11,.i ((ix (rowG ss th) h) - 1)),(7,.p 3),(6,.p 2),(5,.p 1),(3,.p 0),(1,.i th)],[V6,V13,(V3 k h i j v t f m),(V15 ns ss)],4⟩ [nF 0 0]<|cf<|xw_skip<|an<|xw_seq<|dregk hmix kr<|kd [(3,.agg (V5 ns ss th h))] 4 0 [tr,⟨(0:Int)<=((ix (rowG ss th) h) - 1)/\((ix (rowG ss th) h) - 1)<((((V14 ns)).length:Nat):Int)/\((V14 ns))[(((ix (rowG ss th) h) - 1):Int).toNat]? = some (.agg (V5 ns ss th h)),(ix_nd_ om lw)⟩] ?_
      have h9:(I6 (Nd.t (V2 ns ss th h))):=(Nds.at rq _).1
      have h10:(I6 (Nd.l (V2 ns ss th h))):=(Nds.at rq _).2.1
      have h11:(U6 (Nd.m (V2 ns ss th h))):=(Nds.at rq _).2.2.1
      have h12:U64s (V23 ns ss th h):=(Nds.at rq _).2.2.2.1
      have h13:((V23 ns ss th h).length:Int) * 8<=140737488355000:=(Nds.at rq _).2.2.2.2
      refine kd [(8,.u (ix (V23 ns ss th h) i))] 5 4 [tr,tr,x6 .u64 (V23 ns ss th h) i Vo Vo] ?_
      have h14:U6 (ix (V23 ns ss th h) i):=U64s.ix rq _
      exact kd [] 2 9 [tr]<|qen<|an<|xw_seq<|kb [(2,.t)] 3 [144,13,11,7,6,5,3,1] [3,2,1,0] [tr,qT k 2]<|ct<|kb [] 5 [13,11,7,6,5,3,1] [3,2,1,0] [tr,tr,tr]<|xw_ret<|an_ret<|an_ret<|bs (.tup [.agg (V1 ns ss),.agg [.i 0,.u (ix (V23 ns ss th h) i),.f]]) (gl (gd_get om om))
     ·
      refine pc (gfield_2 ns ss th k h i j v t f m false ZZ om ZZ om ZZ ZZ ZZ ZZ om)<|ka [] 5 4 [12,11,7,6,5,3,1] [3,2,1,0] []<|en<|an<|xw_seq<|kB [(1,.t)] 2 ⟨[(126,.t),(12,.i (gfE ns (rowG ss th) h i false)),(11,.i 0),(7,.p 3),(6,.p 2),(5,.p 1),(3,.p 0),(1,.i th)],[V6,V13,(V3 k h i j v t f m),(V15 ns ss)],4⟩ [nT (gfE ns (rowG ss th) h i false) 0]<|ct<|xw_seq<|reg<|ka [] 2 0 [128,127,11,7,6,5,3,1] [3,2,1,0] [tr]<|callx (f:=29) (args:=[.agg (V1 ns ss),.i (gfE ns (rowG ss th) h i false)]) (d:=(some 129)) kr (xcall_of TT_ok Tryz.func29 rfl (by decide) nk ?_)
      refine kb [] 3 [5,4,2,1] [6,5,4,3,2,1,0] []<|kb [] 5 [5,4] [6,5,3,2,1,0] [tr,tr,tr]<|xw_ret<|⟨.tup (V22 ns ss th h i),kr,?_⟩
      exact ka [] 4 3 [11,7,6,5,3,1] [3,2,1,0] [tr,tr]<|en<|an<|xw_ret<|an_ret<|an_ret<|bs (.tup (V22 ns ss th h i)) (gl (gd_fld om om))
    ·
     replace h3:k≠2:=ne_of_beq_false h3
     refine ka [(6,.bool (k == 4))] 5 4 [108,7,6,5,3,1] [3,2,1,0] [tr,sf (k == 4),tr]<|splitr 108 (x:=(k == 4)) kr (fun h4=>?_) (fun h4=>?_)
     ·
      replace h4:k=4:=eq_of_beq h4
      refine ka [] 9 9 [117,7,6,5,3,1] [3,2,1,0] [tr,tr]<|en<|an<|ct<|xw_seq<|reg<|ka [] 3 0 [121,120,119,7,6,5,3,1] [3,2,1,0] [tr,tr] ?_
      by_cases h5:(gfE ns (rowG ss th) h i false)=0
      ·
       refine pc (gfield_1 ns ss th k h i j v t f m false ZZ om ZZ om ZZ ZZ ZZ ZZ ZZ) ?_
       obtain ⟨h6,h7,h8,h9⟩:=gf_in ZZ om om
       refine kA [] 5 4 ⟨[(12,.i 0),(11,.i ((ix (rowG ss th) h) - 1)),(7,.p 3),(6,.p 2),(5,.p 1),(3,.p 0),(1,.i th)],[V6,V13,(V3 k h i j v t f m),(V15 ns ss)],4⟩ []<|en<|an<|xw_seq<|kb [(1,.f)] 2 [126,12,11,7,6,5,3,1] [3,2,1,0] [nF 0 0]<|cf<|xw_skip<|an<|xw_seq<|dregk hmix kr<|kd [(3,.agg (V5 ns ss th h))] 4 0 [tr,⟨(0:Int)<=((ix (rowG ss th) h) - 1)/\((ix (rowG ss th) h) - 1)<((((V14 ns)).length:Nat):Int)/\((V14 ns))[(((ix (rowG ss th) h) - 1):Int).toNat]? = some (.agg (V5 ns ss th h)),(ix_nd_ om lw)⟩] ?_
       have h10:(I6 (Nd.t (V2 ns ss th h))):=(Nds.at rq _).1
       have h11:(I6 (Nd.l (V2 ns ss th h))):=(Nds.at rq _).2.1
       have h12:(U6 (Nd.m (V2 ns ss th h))):=(Nds.at rq _).2.2.1
       have h13:U64s (V23 ns ss th h):=(Nds.at rq _).2.2.2.1
       have h14:((V23 ns ss th h).length:Int) * 8<=140737488355000:=(Nds.at rq _).2.2.2.2
       refine kd [(8,.u (ix (V23 ns ss th h) i))] 5 4 [tr,tr,x6 .u64 (V23 ns ss th h) i Vo Vo] ?_
       have h15:U6 (ix (V23 ns ss th h) i):=U64s.ix rq _
       refine kd [] 2 9 [tr]<|qen<|an<|xw_seq<|kb [(2,.f)] 3 [144,13,11,7,6,5,3,1] [3,2,1,0] [tr,qF k 2]<|cf<|xw_skip<|an<|kb [] 3 [14,13,11,7,6,5,3,1] [3,2,1,0] [tr]<|xw_seq<|kb [(2,.f)] 3 [152,14,13,11,7,6,5,3,1] [3,2,1,0] [tr,qF k 6]<|cf<|xw_skip<|an<|xw_seq<|kb [(2,.f)] 3 [159,14,13,11,7,6,5,3,1] [3,2,1,0] [tr,qF k 7]<|cf<|xw_skip<|an<|xw_seq<|reg<|kA [] 5 0 ⟨[(168,.u v),(167,.i i),(165,.i ((ix (rowG ss th) h) - 1)),(164,.agg (V1 ns ss)),(7,.p 3),(6,.p 2),(5,.p 1),(3,.p 0),(1,.i th)],[V6,V13,(V3 k h i j v t f m),(V15 ns ss)],4⟩ [tr,tr]<|pc (gset_1 ns ss ((ix (rowG ss th) h) - 1) i v ZZ om ZZ om om ZZ ZZ)<|ka [] 3 6 [7,6,5,3,1] [3,2,1,0] [tr,tr] ?_
       exact en<|an<|xw_ret<|an_ret<|bs (.tup [.agg [.sl false 4 (List.map nodeS (nset ns ((ix (rowG ss th) h) - 1) i v)),.sl false 1 (V18 ss)],.agg [.i 0,.u 0,.f]]) (gl (gd_put om om))
      ·
       refine pc (gfield_2 ns ss th k h i j v t f m false ZZ om ZZ om ZZ ZZ ZZ ZZ om)<|kA [] 5 4 ⟨[(12,.i (gfE ns (rowG ss th) h i false)),(11,.i 0),(7,.p 3),(6,.p 2),(5,.p 1),(3,.p 0),(1,.i th)],[V6,V13,(V3 k h i j v t f m),(V15 ns ss)],4⟩ []<|en<|an<|xw_seq<|kb [(1,.t)] 2 [126,12,11,7,6,5,3,1] [3,2,1,0] [nT (gfE ns (rowG ss th) h i false) 0]<|ct<|xw_seq<|reg<|ka [] 2 0 [128,127,11,7,6,5,3,1] [3,2,1,0] [tr]<|callx (f:=29) (args:=[.agg (V1 ns ss),.i (gfE ns (rowG ss th) h i false)]) (d:=(some 129)) kr (xcall_of TT_ok Tryz.func29 rfl (by decide) nk ?_)
       refine kb [] 3 [5,4,2,1] [6,5,4,3,2,1,0] []<|kb [] 5 [5,4] [6,5,3,2,1,0] [tr,tr,tr]<|xw_ret<|⟨.tup (V22 ns ss th h i),kr,?_⟩
       exact ka [] 4 3 [11,7,6,5,3,1] [3,2,1,0] [tr,tr]<|en<|an<|xw_ret<|an_ret<|an_ret<|bs (.tup (V22 ns ss th h i)) (gl (gd_fld om om))
     ·
      replace h4:k≠4:=ne_of_beq_false h4
      refine ka [(11,.bool (k == 6))] 5 9 [113,7,6,5,3,1] [3,2,1,0] [tr,sf (k == 6),tr]<|splitr 113 (x:=(k == 6)) kr (fun h5=>?_) (fun h5=>?_)
      ·
       replace h5:k=6:=eq_of_beq h5
       refine ka [] 4 14 [117,7,6,5,3,1] [3,2,1,0] [tr]<|en<|an<|ct<|xw_seq<|reg<|kA [] 3 0 ⟨[(121,.agg [.i k,.i h,.i i,.i j,.u v,.i t,.i f,.u m]),(120,.i th),(119,.agg (V1 ns ss)),(7,.p 3),(6,.p 2),(5,.p 1),(3,.p 0),(1,.i th)],[V6,V13,(V3 k h i j v t f m),(V15 ns ss)],4⟩ [tr,tr] ?_
       by_cases h6:(gfE ns (rowG ss th) h i false)=0
       ·
        refine pc (gfield_1 ns ss th k h i j v t f m false ZZ om ZZ om ZZ ZZ ZZ ZZ ZZ) ?_
        obtain ⟨h7,h8,h9,h10⟩:=gf_in ZZ om om
        refine ka [] 5 4 [12,11,7,6,5,3,1] [3,2,1,0] []<|en<|an<|xw_seq<|kb [(1,.f)] 2 [126,12,11,7,6,5,3,1] [3,2,1,0] [nF 0 0]<|cf<|xw_skip<|an<|xw_seq<|dregk hmix kr<|kd [(3,.agg (V5 ns ss th h))] 4 0 [tr,⟨(0:Int)<=((ix (rowG ss th) h) - 1)/\((ix (rowG ss th) h) - 1)<((((V14 ns)).length:Nat):Int)/\((V14 ns))[(((ix (rowG ss th) h) - 1):Int).toNat]? = some (.agg (V5 ns ss th h)),(ix_nd_ om lw)⟩] ?_
        have h11:(I6 (Nd.t (V2 ns ss th h))):=(Nds.at rq _).1
        have h12:(I6 (Nd.l (V2 ns ss th h))):=(Nds.at rq _).2.1
        have h13:(U6 (Nd.m (V2 ns ss th h))):=(Nds.at rq _).2.2.1
        have h14:U64s (V23 ns ss th h):=(Nds.at rq _).2.2.2.1
        have h15:((V23 ns ss th h).length:Int) * 8<=140737488355000:=(Nds.at rq _).2.2.2.2
        refine kd [(8,.u (ix (V23 ns ss th h) i))] 5 4 [tr,tr,x6 .u64 (V23 ns ss th h) i Vo Vo] ?_
        have h16:U6 (ix (V23 ns ss th h) i):=U64s.ix rq _
        refine kd [] 2 9 [tr]<|qen<|an<|xw_seq<|kb [(2,.f)] 3 [144,13,11,7,6,5,3,1] [3,2,1,0] [tr,qF k 2]<|cf<|xw_skip<|an<|kb [] 3 [14,13,11,7,6,5,3,1] [3,2,1,0] [tr]<|xw_seq<|kb [(2,.t)] 3 [152,14,13,11,7,6,5,3,1] [3,2,1,0] [tr,qT k 6]<|ct<|reg<|kA [] 3 0 ⟨[(155,.u v),(153,.u (ix (V23 ns ss th h) i)),(14,.u v),(13,.u (ix (V23 ns ss th h) i)),(11,.i ((ix (rowG ss th) h) - 1)),(7,.p 3),(6,.p 2),(5,.p 1),(3,.p 0),(1,.i th)],[V6,V13,(V3 k h i j v t f m),(V15 ns ss)],4⟩ [tr]<|pc (radd (ix (V23 ns ss th h) i) v ZZ ZZ) ?_
        have h17:U6 (nAd (ix (V23 ns ss th h) i) v):=pkN_ok _ _
        exact ka [] 1 4 [14,13,11,7,6,5,3,1] [3,2,1,0] []<|en<|an<|xw_seq<|kb [(2,.f)] 3 [159,14,13,11,7,6,5,3,1] [3,2,1,0] [tr,qF k 7]<|cf<|xw_skip<|an<|xw_seq<|reg<|ka [] 5 0 [168,167,165,164,7,6,5,3,1] [3,2,1,0] [tr,tr]<|pc (gset_1 ns ss ((ix (rowG ss th) h) - 1) i (nAd (ix (V23 ns ss th h) i) v) ZZ om ZZ om om ZZ ZZ)<|ka [] 3 6 [7,6,5,3,1] [3,2,1,0] [tr,tr]<|en<|an<|xw_ret<|an_ret<|bs (.tup [.agg [.sl false 4 (List.map nodeS (nset ns ((ix (rowG ss th) h) - 1) i (nAd (ix (V23 ns ss th h) i) v))),.sl false 1 (V18 ss)],.agg [.i 0,.u 0,.f]]) (gl (gd_add om om))
       ·
        refine pc (gfield_2 ns ss th k h i j v t f m false ZZ om ZZ om ZZ ZZ ZZ ZZ om)<|ka [] 5 4 [12,11,7,6,5,3,1] [3,2,1,0] []<|en<|an<|xw_seq<|kb [(1,.t)] 2 [126,12,11,7,6,5,3,1] [3,2,1,0] [nT (gfE ns (rowG ss th) h i false) 0]<|ct<|xw_seq<|reg<|ka [] 2 0 [128,127,11,7,6,5,3,1] [3,2,1,0] [tr]<|callx (f:=29) (args:=[.agg (V1 ns ss),.i (gfE ns (rowG ss th) h i false)]) (d:=(some 129)) kr (xcall_of TT_ok Tryz.func29 rfl (by decide) nk ?_)
        refine kb [] 3 [5,4,2,1] [6,5,4,3,2,1,0] []<|kb [] 5 [5,4] [6,5,3,2,1,0] [tr,tr,tr]<|xw_ret<|⟨.tup (V22 ns ss th h i),kr,?_⟩
        exact ka [] 4 3 [11,7,6,5,3,1] [3,2,1,0] [tr,tr]<|en<|an<|xw_ret<|an_ret<|an_ret<|bs (.tup (V22 ns ss th h i)) (gl (gd_fld om om))
      ·
       replace h5:k≠6:=ne_of_beq_false h5
       refine ka [(16,.bool (k == 7))] 4 14 [117,7,6,5,3,1] [3,2,1,0] [tr,sf (k == 7),tr]<|en<|an<|xcE k 7 (fun h6=>?_) (fun h6=>?_)
       ·
        refine xw_seq<|reg<|kA [] 3 0 ⟨[(121,.agg [.i k,.i h,.i i,.i j,.u v,.i t,.i f,.u m]),(120,.i th),(119,.agg (V1 ns ss)),(7,.p 3),(6,.p 2),(5,.p 1),(3,.p 0),(1,.i th)],[V6,V13,(V3 k h i j v t f m),(V15 ns ss)],4⟩ [tr,tr] ?_
        by_cases h7:(gfE ns (rowG ss th) h i false)=0
        ·
         refine pc (gfield_1 ns ss th k h i j v t f m false ZZ om ZZ om ZZ ZZ ZZ ZZ ZZ) ?_
         obtain ⟨h8,h9,h10,h11⟩:=gf_in ZZ om om
         refine ka [] 5 4 [12,11,7,6,5,3,1] [3,2,1,0] []<|en<|an<|xw_seq<|kb [(1,.f)] 2 [126,12,11,7,6,5,3,1] [3,2,1,0] [nF 0 0]<|cf<|xw_skip<|an<|xw_seq<|dregk hmix kr<|kd [(3,.agg (V5 ns ss th h))] 4 0 [tr,⟨(0:Int)<=((ix (rowG ss th) h) - 1)/\((ix (rowG ss th) h) - 1)<((((V14 ns)).length:Nat):Int)/\((V14 ns))[(((ix (rowG ss th) h) - 1):Int).toNat]? = some (.agg (V5 ns ss th h)),(ix_nd_ om lw)⟩] ?_
         have h12:(I6 (Nd.t (V2 ns ss th h))):=(Nds.at rq _).1
         have h13:(I6 (Nd.l (V2 ns ss th h))):=(Nds.at rq _).2.1
         have h14:(U6 (Nd.m (V2 ns ss th h))):=(Nds.at rq _).2.2.1
         have h15:U64s (V23 ns ss th h):=(Nds.at rq _).2.2.2.1
         have h16:((V23 ns ss th h).length:Int) * 8<=140737488355000:=(Nds.at rq _).2.2.2.2
         refine kd [(8,.u (ix (V23 ns ss th h) i))] 5 4 [tr,tr,x6 .u64 (V23 ns ss th h) i Vo Vo] ?_
         have h17:U6 (ix (V23 ns ss th h) i):=U64s.ix rq _
         refine kd [] 2 9 [tr]<|qen<|an<|xw_seq<|kb [(2,.f)] 3 [144,13,11,7,6,5,3,1] [3,2,1,0] [tr,qF k 2]<|cf<|xw_skip<|an<|kb [] 3 [14,13,11,7,6,5,3,1] [3,2,1,0] [tr]<|xw_seq<|kb [(2,.f)] 3 [152,14,13,11,7,6,5,3,1] [3,2,1,0] [tr,qF k 6]<|cf<|xw_skip<|an<|xw_seq<|kB [(2,.t)] 3 ⟨[(159,.t),(14,.u v),(13,.u (ix (V23 ns ss th h) i)),(11,.i ((ix (rowG ss th) h) - 1)),(7,.p 3),(6,.p 2),(5,.p 1),(3,.p 0),(1,.i th)],[V6,V13,(V3 k h i j v t f m),(V15 ns ss)],4⟩ [tr,qT k 7]<|ct<|reg<|ka [] 3 0 [162,160,14,11,7,6,5,3,1] [3,2,1,0] [tr]<|pc (rmul (ix (V23 ns ss th h) i) v ZZ ZZ) ?_
         have h18:U6 (nMu (ix (V23 ns ss th h) i) v):=pkN_ok _ _
         exact ka [] 1 4 [14,11,7,6,5,3,1] [3,2,1,0] []<|en<|an<|xw_seq<|reg<|ka [] 5 0 [168,167,165,164,7,6,5,3,1] [3,2,1,0] [tr,tr]<|pc (gset_1 ns ss ((ix (rowG ss th) h) - 1) i (nMu (ix (V23 ns ss th h) i) v) ZZ om ZZ om om ZZ ZZ)<|ka [] 3 6 [7,6,5,3,1] [3,2,1,0] [tr,tr]<|en<|an<|xw_ret<|an_ret<|bs (.tup [.agg [.sl false 4 (List.map nodeS (nset ns ((ix (rowG ss th) h) - 1) i (nMu (ix (V23 ns ss th h) i) v))),.sl false 1 (V18 ss)],.agg [.i 0,.u 0,.f]]) (gl (gd_mul om om))
        ·
         refine pc (gfield_2 ns ss th k h i j v t f m false ZZ om ZZ om ZZ ZZ ZZ ZZ om)<|ka [] 5 4 [12,11,7,6,5,3,1] [3,2,1,0] []<|en<|an<|xw_seq<|kb [(1,.t)] 2 [126,12,11,7,6,5,3,1] [3,2,1,0] [nT (gfE ns (rowG ss th) h i false) 0]<|ct<|xw_seq<|reg<|ka [] 2 0 [128,127,11,7,6,5,3,1] [3,2,1,0] [tr]<|callx (f:=29) (args:=[.agg (V1 ns ss),.i (gfE ns (rowG ss th) h i false)]) (d:=(some 129)) kr (xcall_of TT_ok Tryz.func29 rfl (by decide) nk ?_)
         refine kb [] 3 [5,4,2,1] [6,5,4,3,2,1,0] []<|kb [] 5 [5,4] [6,5,3,2,1,0] [tr,tr,tr]<|xw_ret<|⟨.tup (V22 ns ss th h i),kr,?_⟩
         exact ka [] 4 3 [11,7,6,5,3,1] [3,2,1,0] [tr,tr]<|en<|an<|xw_ret<|an_ret<|an_ret<|bs (.tup (V22 ns ss th h i)) (gl (gd_fld om om))
       ·
        refine xw_skip<|an<|xw_seq<|xw_seq<|reg<|kA [(2,.bool (k == 3))] 4 0 ⟨[(174,.bool (k == 3)),(7,.p 3),(6,.p 2),(5,.p 1),(3,.p 0),(1,.i th)],[V6,V13,(V3 k h i j v t f m),(V15 ns ss)],4⟩ [tr,sf (k == 3)]<|splitr 174 (x:=(k == 3)) kr (fun h7=>?_) (fun h7=>?_)
        ·
         replace h7:k=3:=eq_of_beq h7
         refine ka [] 4 4 [178,7,6,5,3,1] [3,2,1,0] [tr]<|en<|an<|ct<|xw_seq<|reg<|ka [] 3 0 [182,181,180,7,6,5,3,1] [3,2,1,0] [tr,tr] ?_
         by_cases h8:(gfE ns (rowG ss th) h i true)=0
         ·
          refine pc (gfield_1 ns ss th k h i j v t f m true ZZ om ZZ om ZZ ZZ ZZ ZZ ZZ) ?_
          obtain ⟨h9,h10,h11,h12⟩:=gf_in ZZ om om
          have h13:0<=(ix (V23 ns ss th h) i)/\(ix (V23 ns ss th h) i)<=(ns.length:Int):=gf_pt ZZ om om
          refine ka [] 5 4 [16,15,7,6,5,3,1] [3,2,1,0] []<|en<|an<|xw_seq<|kb [(1,.f)] 2 [187,16,15,7,6,5,3,1] [3,2,1,0] [nF 0 0]<|cf<|xw_skip<|an<|xw_seq<|kb [(2,.t)] 3 [195,15,7,6,5,3,1] [3,2,1,0] [tr,qT k 3]<|ct<|xw_seq ?_
          by_cases h14:16<=(((rowG ss th)).length:Int)
          ·
           refine sreg hmix [([V6,V13,(V3 k h i j v t f m),(V15 ns ss)],4),([(4,.cells [.nils,.nils] 46),V6,V13,(V3 k h i j v t f m),(V15 ns ss)],5),([(4,.cells (V1 ns ss) 46),V6,V13,(V3 k h i j v t f m),(V15 ns ss)],5)] [17,18] [(3,[2]),(5,[2,3,4]),(6,[2,3,4,5]),(7,[2,3,4,5,6]),(9,[8]),(10,[2,3,4,5,6,7,8,9]),(11,[2,3,4,5,6,7,8,9,10]),(12,[2,3,4,5,6,7,8,9,10,11]),(13,[0,1,2,3,4,5,6,7,8,9,10,11,12]),(14,[0,1,2,3,4,5,6,7,8,9,10,11,12,13]),(15,[0,1,2,3,4,5,6,7,8,9,10,11,12,13,14]),(16,[0,1,2,3,4,5,6,7,8,9,10,11,12,13,14]),(18,[0,1,2,3,4,5,6,7,8,9,10,11,12,13,14,15,17]),(19,[0,1,2,3,4,5,6,7,8,9,10,11,12,13,14,15,16,17,18])] kr kr kr kr kr<|ke [(5,.agg (V5 ns ss th h))] 6 0 [tr,sf (SV.agg (V1 ns ss)),tr,tr,tr,tr,sf (SV.sl false 4 (V14 ns)),tr,tr,⟨(0:Int)<=((ix (rowG ss th) h) - 1)/\((ix (rowG ss th) h) - 1)<((((V14 ns)).length:Nat):Int)/\((V14 ns))[(((ix (rowG ss th) h) - 1):Int).toNat]? = some (.agg (V5 ns ss th h)),(ix_nd_ om lw)⟩,sf (SV.elt (.agg (V5 ns ss th h))),⟨(0:Int)<=((ix (rowG ss th) h) - 1)/\((ix (rowG ss th) h) - 1)<((((V14 ns)).length:Nat):Int)/\((V14 ns))[(((ix (rowG ss th) h) - 1):Int).toNat]? = some (.agg (V5 ns ss th h)),(ix_nd_ om lw)⟩] ?_
           have h15:(I6 (Nd.t (V2 ns ss th h))):=(Nds.at rq _).1
           have h16:(I6 (Nd.l (V2 ns ss th h))):=(Nds.at rq _).2.1
           have h17:(U6 (Nd.m (V2 ns ss th h))):=(Nds.at rq _).2.2.1
           have h18:U64s (V23 ns ss th h):=(Nds.at rq _).2.2.2.1
           have h19:((V23 ns ss th h).length:Int) * 8<=140737488355000:=(Nds.at rq _).2.2.2.2
           refine ke [(10,.u (ix (V23 ns ss th h) i))] 5 6 [tr,tr,sf (SV.sl false 1 (m64 (V23 ns ss th h))),tr,tr,tr,sf (SV.int .i64 i),tr,x6 .u64 (V23 ns ss th h) i Vo Vo,sf (SV.elt (.u (ix (V23 ns ss th h) i))),x6 .u64 (V23 ns ss th h) i Vo Vo] ?_
           have h20:U6 (ix (V23 ns ss th h) i):=U64s.ix rq _
           exact ke [(12,.i (ix (V23 ns ss th h) i))] 2 11 [tr,sf (SV.int .u64 (ix (V23 ns ss th h) i)),tr,w6 (ix (V23 ns ss th h) i)]<|sc (gpush_1 ns ss th (ix (V23 ns ss th h) i) ZZ om ZZ om ZZ ZZ om ZZ)<|ke [] 6 14 [tr,tr,tr,tr,sf ([(4,.cells [.nils,.nils] 46),V6,V13,(V3 k h i j v t f m),(V15 ns ss)] : Mem),sf (5:Nat),tr,sf ([(4,.cells (V1 ns ss) 46),V6,V13,(V3 k h i j v t f m),(V15 ns ss)] : Mem),sf (5:Nat),tr]<|sen<|an<|kB [] 5 ⟨[(15,.i ((ix (rowG ss th) h) - 1)),(7,.p 3),(6,.p 2),(5,.p 1),(3,.p 0),(1,.i th)],[(3,.cells [.i 4,.u 0,.f] 54),(2,.cells (V1 ns ss) 46),(V3 k h i j v t f m),(V15 ns ss)],5⟩ [tr,tr,tr]<|xw_ret<|an_ret<|an_ret<|bs (.tup [.agg (V1 ns ss),.agg [.i 4,.u 0,.f]]) (gl (gd_full3 om om om))
          ·
           refine sreg hmix [([V6,V13,(V3 k h i j v t f m),(V15 ns ss)],4),([(4,.cells [.nils,.nils] 46),V6,V13,(V3 k h i j v t f m),(V15 ns ss)],5),([(4,.cells (V19 ns ss th h i) 46),V6,V13,(V3 k h i j v t f m),(V15 ns ss)],5)] [17,18] [(3,[2]),(5,[2,3,4]),(6,[2,3,4,5]),(7,[2,3,4,5,6]),(9,[8]),(10,[2,3,4,5,6,7,8,9]),(11,[2,3,4,5,6,7,8,9,10]),(12,[2,3,4,5,6,7,8,9,10,11]),(13,[0,1,2,3,4,5,6,7,8,9,10,11,12]),(14,[0,1,2,3,4,5,6,7,8,9,10,11,12,13]),(15,[0,1,2,3,4,5,6,7,8,9,10,11,12,13,14]),(16,[0,1,2,3,4,5,6,7,8,9,10,11,12,13,14]),(18,[0,1,2,3,4,5,6,7,8,9,10,11,12,13,14,15,17]),(19,[0,1,2,3,4,5,6,7,8,9,10,11,12,13,14,15,16,17,18])] kr kr kr kr kr<|ke [(5,.agg (V5 ns ss th h))] 6 0 [tr,sf (SV.agg (V1 ns ss)),tr,tr,tr,tr,sf (SV.sl false 4 (V14 ns)),tr,tr,⟨(0:Int)<=((ix (rowG ss th) h) - 1)/\((ix (rowG ss th) h) - 1)<((((V14 ns)).length:Nat):Int)/\((V14 ns))[(((ix (rowG ss th) h) - 1):Int).toNat]? = some (.agg (V5 ns ss th h)),(ix_nd_ om lw)⟩,sf (SV.elt (.agg (V5 ns ss th h))),⟨(0:Int)<=((ix (rowG ss th) h) - 1)/\((ix (rowG ss th) h) - 1)<((((V14 ns)).length:Nat):Int)/\((V14 ns))[(((ix (rowG ss th) h) - 1):Int).toNat]? = some (.agg (V5 ns ss th h)),(ix_nd_ om lw)⟩] ?_
           have h15:(I6 (Nd.t (V2 ns ss th h))):=(Nds.at rq _).1
           have h16:(I6 (Nd.l (V2 ns ss th h))):=(Nds.at rq _).2.1
           have h17:(U6 (Nd.m (V2 ns ss th h))):=(Nds.at rq _).2.2.1
           have h18:U64s (V23 ns ss th h):=(Nds.at rq _).2.2.2.1
           have h19:((V23 ns ss th h).length:Int) * 8<=140737488355000:=(Nds.at rq _).2.2.2.2
           refine ke [(10,.u (ix (V23 ns ss th h) i))] 5 6 [tr,tr,sf (SV.sl false 1 (m64 (V23 ns ss th h))),tr,tr,tr,sf (SV.int .i64 i),tr,x6 .u64 (V23 ns ss th h) i Vo Vo,sf (SV.elt (.u (ix (V23 ns ss th h) i))),x6 .u64 (V23 ns ss th h) i Vo Vo] ?_
           have h20:U6 (ix (V23 ns ss th h) i):=U64s.ix rq _
           exact ke [(12,.i (ix (V23 ns ss th h) i))] 2 11 [tr,sf (SV.int .u64 (ix (V23 ns ss th h) i)),tr,w6 (ix (V23 ns ss th h) i)]<|sc (gpush_2 ns ss th (ix (V23 ns ss th h) i) ZZ om ZZ om ZZ ZZ om om)<|ke [] 6 14 [tr,tr,tr,tr,sf ([(4,.cells [.nils,.nils] 46),V6,V13,(V3 k h i j v t f m),(V15 ns ss)] : Mem),sf (5:Nat),tr,sf ([(4,.cells (V19 ns ss th h i) 46),V6,V13,(V3 k h i j v t f m),(V15 ns ss)] : Mem),sf (5:Nat),tr]<|sen<|an<|kB [] 5 ⟨[(15,.i ((ix (rowG ss th) h) - 1)),(7,.p 3),(6,.p 2),(5,.p 1),(3,.p 0),(1,.i th)],[V6,(2,.cells (V19 ns ss th h i) 46),(V3 k h i j v t f m),(V15 ns ss)],5⟩ [tr,tr,tr]<|xw_ret<|an_ret<|an_ret<|br (.tup [.agg (V19 ns ss th h i),.agg [.i 0,.u 0,.f]]) (.tup [.agg (V19 ns ss th h i),.agg [.i 0,.u 0,.f]]) (wk_s [(3,⟨sm (List.map rowI (List.set ss (Int.toNat th) ((rowG ss th)++[(ix (V23 ns ss th h) i)]))),Vb2⟩)]) (gl (gd_follow om om om))
         ·
          refine pc (gfield_2 ns ss th k h i j v t f m true ZZ om ZZ om ZZ ZZ ZZ ZZ om)<|ka [] 5 4 [16,15,7,6,5,3,1] [3,2,1,0] []<|en<|an<|xw_seq<|kb [(1,.t)] 2 [187,16,15,7,6,5,3,1] [3,2,1,0] [nT (gfE ns (rowG ss th) h i true) 0]<|ct<|xw_seq<|reg<|ka [] 2 0 [189,188,15,7,6,5,3,1] [3,2,1,0] [tr]<|callx (f:=29) (args:=[.agg (V1 ns ss),.i (gfE ns (rowG ss th) h i true)]) (d:=(some 190)) kr (xcall_of TT_ok Tryz.func29 rfl (by decide) nk ?_)
          refine kb [] 3 [5,4,2,1] [6,5,4,3,2,1,0] []<|kb [] 5 [5,4] [6,5,3,2,1,0] [tr,tr,tr]<|xw_ret<|⟨.tup (V36 ns ss th h i),kr,?_⟩
          exact kA [] 4 3 ⟨[(15,.i 0),(7,.p 3),(6,.p 2),(5,.p 1),(3,.p 0),(1,.i th)],[(3,.cells [.i (gfE ns (rowG ss th) h i true),.u 0,.f] 54),(2,.cells (V1 ns ss) 46),(V3 k h i j v t f m),(V15 ns ss)],7⟩ [tr,tr]<|en<|an<|xw_ret<|an_ret<|an_ret<|bs (.tup (V36 ns ss th h i)) (gl (gd_ptr om om))
        ·
         replace h7:k≠3:=ne_of_beq_false h7
         refine ka [(6,.bool (k == 5))] 4 4 [178,7,6,5,3,1] [3,2,1,0] [tr,sf (k == 5),tr]<|en<|an<|xcE k 5 (fun h8=>?_) (fun h8=>?_)
         ·
          refine xw_seq<|reg<|ka [] 3 0 [182,181,180,7,6,5,3,1] [3,2,1,0] [tr,tr] ?_
          by_cases h9:(gfE ns (rowG ss th) h i true)=0
          ·
           refine pc (gfield_1 ns ss th k h i j v t f m true ZZ om ZZ om ZZ ZZ ZZ ZZ ZZ) ?_
           obtain ⟨h10,h11,h12,h13⟩:=gf_in ZZ om om
           have h14:0<=(ix (V23 ns ss th h) i)/\(ix (V23 ns ss th h) i)<=(ns.length:Int):=gf_pt ZZ om om
           refine ka [] 5 4 [16,15,7,6,5,3,1] [3,2,1,0] []<|en<|an<|xw_seq<|kb [(1,.f)] 2 [187,16,15,7,6,5,3,1] [3,2,1,0] [nF 0 0]<|cf<|xw_skip<|an<|xw_seq<|kb [(2,.f)] 3 [195,15,7,6,5,3,1] [3,2,1,0] [tr,qF k 3]<|cf<|xw_skip<|an<|xw_seq<|reg<|ka [] 4 0 [220,218,217,15,7,6,5,3,1] [3,2,1,0] [tr,tr] ?_
           by_cases h15:0<=j/\j<(((rowG ss th)).length:Int)
           ·
            refine pc (ghand_1 ns ss th j ZZ om ZZ om ZZ ZZ ZZ ZZ) ?_
            have h16:0<=(ix (rowG ss th) j)/\(ix (rowG ss th) j)<=(ns.length:Int):=GOk.hd ZZ om om om om
            exact ka [] 5 5 [20,19,15,7,6,5,3,1] [3,2,1,0] []<|en<|an<|xw_seq<|kb [(1,.f)] 2 [225,20,19,15,7,6,5,3,1] [3,2,1,0] [nF 0 0]<|cf<|xw_skip<|an<|xw_seq<|reg<|kA [(5,.i (ix (rowG ss th) j))] 6 0 ⟨[(236,.u (ix (rowG ss th) j)),(234,.i i),(232,.i ((ix (rowG ss th) h) - 1)),(231,.agg (V1 ns ss)),(7,.p 3),(6,.p 2),(5,.p 1),(3,.p 0),(1,.i th)],[V6,V13,(V3 k h i j v t f m),(V15 ns ss)],4⟩ [tr,tr,w7 (ix (rowG ss th) j)]<|pc (gset_1 ns ss ((ix (rowG ss th) h) - 1) i (ix (rowG ss th) j) ZZ om ZZ om om ZZ om)<|ka [] 3 7 [7,6,5,3,1] [3,2,1,0] [tr,tr]<|en<|an<|xw_ret<|an_ret<|bs (.tup [.agg [.sl false 4 (List.map nodeS (nset ns ((ix (rowG ss th) h) - 1) i (ix (rowG ss th) j))),.sl false 1 (V18 ss)],.agg [.i 0,.u 0,.f]]) (gl (gd_link om om om))
           ·
            refine pc (ghand_2 ns ss th j ZZ om ZZ om ZZ ZZ ZZ ZZ)<|ka [] 5 5 [20,19,15,7,6,5,3,1] [3,2,1,0] []<|en<|an<|xw_seq<|kb [(1,.t)] 2 [225,20,19,15,7,6,5,3,1] [3,2,1,0] [nT 5 0]<|ct<|xw_seq<|reg<|kA [] 2 0 ⟨[(227,.i 5),(226,.agg (V1 ns ss)),(19,.i 0),(15,.i ((ix (rowG ss th) h) - 1)),(7,.p 3),(6,.p 2),(5,.p 1),(3,.p 0),(1,.i th)],[V6,V13,(V3 k h i j v t f m),(V15 ns ss)],4⟩ [tr]<|callx (f:=29) (args:=[.agg (V1 ns ss),.i 5]) (d:=(some 228)) kr (xcall_of TT_ok Tryz.func29 rfl (by decide) nk ?_)
            refine kb [] 3 [5,4,2,1] [6,5,4,3,2,1,0] []<|kb [] 5 [5,4] [6,5,3,2,1,0] [tr,tr,tr]<|xw_ret<|⟨.tup [.agg (V1 ns ss),.agg [.i 5,.u 0,.f]],kr,?_⟩
            exact ka [] 4 3 [19,15,7,6,5,3,1] [3,2,1,0] [tr,tr]<|en<|an<|xw_ret<|an_ret<|an_ret<|bs (.tup [.agg (V1 ns ss),.agg [.i 5,.u 0,.f]]) (gl (gd_link5 om om om))
          ·
           refine pc (gfield_2 ns ss th k h i j v t f m true ZZ om ZZ om ZZ ZZ ZZ ZZ om)<|ka [] 5 4 [16,15,7,6,5,3,1] [3,2,1,0] []<|en<|an<|xw_seq<|kb [(1,.t)] 2 [187,16,15,7,6,5,3,1] [3,2,1,0] [nT (gfE ns (rowG ss th) h i true) 0]<|ct<|xw_seq<|reg<|ka [] 2 0 [189,188,15,7,6,5,3,1] [3,2,1,0] [tr]<|callx (f:=29) (args:=[.agg (V1 ns ss),.i (gfE ns (rowG ss th) h i true)]) (d:=(some 190)) kr (xcall_of TT_ok Tryz.func29 rfl (by decide) nk ?_)
           refine kb [] 3 [5,4,2,1] [6,5,4,3,2,1,0] []<|kb [] 5 [5,4] [6,5,3,2,1,0] [tr,tr,tr]<|xw_ret<|⟨.tup (V36 ns ss th h i),kr,?_⟩
           exact kA [] 4 3 ⟨[(15,.i 0),(7,.p 3),(6,.p 2),(5,.p 1),(3,.p 0),(1,.i th)],[(3,.cells [.i (gfE ns (rowG ss th) h i true),.u 0,.f] 54),(2,.cells (V1 ns ss) 46),(V3 k h i j v t f m),(V15 ns ss)],7⟩ [tr,tr]<|en<|an<|xw_ret<|an_ret<|an_ret<|bs (.tup (V36 ns ss th h i)) (gl (gd_ptr om om))
         ·
          refine xw_skip<|an<|xw_seq<|kb [(2,.bool (k == 10))] 3 [241,7,6,5,3,1] [3,2,1,0] [tr,sf (k == 10)]<|xcE k 10 (fun h9=>?_) (fun h9=>?_)
          ·
           refine xw_seq<|xw_seq<|reg<|ka [(3,.sl false 1 (V28 ss th))] 4 0 [245,7,6,5,3,1] [3,2,1,0] [tr,⟨(0:Int)<=th/\th<((((V18 ss)).length:Nat):Int)/\((V18 ss))[(th:Int).toNat]? = some (.sl false 1 (V28 ss th)),(ix_ri om lw)⟩] ?_
           have h10:I64s (rowG ss th):=(RIs.at rq _).1
           have h11:((rowG ss th).length:Int) * 8<=140737488355000:=(RIs.at rq _).2
           refine ka [(5,.i (((rowG ss th)).length:Int)),(6,.bool ((((rowG ss th)).length:Int) == 0))] 3 4 [248,7,6,5,3,1] [3,2,1,0] [tr,l6 (SV.int .i64) (rowG ss th),sf ((((rowG ss th)).length:Int) == 0)]<|en<|an<|xcE (((rowG ss th)).length:Int) 0 (fun h12=>?_) (fun h12=>?_)
           ·
            refine xw_seq<|reg<|ka [] 1 0 [249,7,6,5,3,1] [3,2,1,0] [tr]<|callx (f:=29) (args:=[.agg (V1 ns ss),.i 9]) (d:=(some 250)) kr (xcall_of TT_ok Tryz.func29 rfl (by decide) nk ?_)
            refine kb [] 3 [5,4,2,1] [6,5,4,3,2,1,0] []<|kb [] 5 [5,4] [6,5,3,2,1,0] [tr,tr,tr]<|xw_ret<|⟨.tup [.agg (V1 ns ss),.agg [.i 9,.u 0,.f]],kr,?_⟩
            exact kA [] 4 2 ⟨[(7,.p 3),(6,.p 2),(5,.p 1),(3,.p 0),(1,.i th)],[(3,.cells [.i 9,.u 0,.f] 54),(2,.cells (V1 ns ss) 46),(V3 k h i j v t f m),(V15 ns ss)],7⟩ [tr,tr]<|en<|an<|xw_ret<|an_ret<|an_ret<|bs (.tup [.agg (V1 ns ss),.agg [.i 9,.u 0,.f]]) (gl (gd_empty om om))
           ·
            refine xw_skip<|an<|xw_seq<|reg<|ka [] 1 0 [253,7,6,5,3,1] [3,2,1,0] [tr]<|callx (f:=31) (args:=[.agg (V1 ns ss)]) (d:=(some 254)) kr (xcall_of TT_ok Tryz.func31 rfl (by decide) nk ?_)
            refine kb [] 2 [2,1] [5,4,3,2,1,0] []<|xw_seq<|reg<|ka [] 4 0 [8,2,1] [7,5,4,3,2,1,0] [tr,⟨(∀ y∈((V14 ns):List SV),ElemOk y)/\(false=true->1<=((V14 ns):List SV).length/\∀ x∈([] : List SV),ElemOk x)/\(([] : List SV).length + ((V14 ns):List SV).length) * 48<=140737488355328/\([] : List SV).length + ((V14 ns):List SV).length<=4611686018427387904,⟨elem_nd,(fun h=>by cases h),lw,lw⟩⟩]<|setr 7 (z:=4) (E:=68) (L:=(([])++((V14 ns)))) (L':=(V14 ns)) kr nil_app<|ka [] 3 4 [3,2,1] [8,7,5,4,3,2,1,0] [tr]<|en<|an<|xw_seq<|kB [] 1 ⟨[(4,.i 0),(3,.p 8),(2,.p 5),(1,.p 4)],[(8,.cells [.own 7,.nils] 46),(V35 ns),(5,.cells [.nils,.nils] 46),(4,.cells (V1 ns ss) 46),V6,V13,(V3 k h i j v t f m),(V15 ns ss)],9⟩ []<|xw_block<|xw_nilcell 8 1 1 29 46 (l:=[.own 7,.nils]) kr kr<|xw_nilcell 5 0 1 29 46 (l:=[.nils,.nils]) kr kr<|xw_nilcell 5 1 1 29 46 (l:=[.own 10,.nils]) kr kr<|xw_nilcell 2 0 1 29 46 (l:=[.nils,.nils]) kr kr<|xw_nilcell 2 1 1 29 46 (l:=[.own 12,.nils]) kr kr<|xw_loop (α:={q:Int // (0<=q)/\(q<=(ss.length:Int))}) (fun p=>⟨[(4,.i p.1),(3,.p 8),(2,.p 5),(1,.p 4)],[(13,.row 1 29 V4),(12,.row 1 29 V4),(11,.row 1 29 V4),(10,.row 1 29 V4),(9,.row 1 29 (List.map rowI (ss.take (Int.toNat p.1)))),(8,.cells [.own 7,.own 9] 46),(V35 ns),(5,.cells [.own 10,.own 11] 46),(4,.cells (V1 ns ss) 46),V6,V20,(V3 k h i j v t f m),(V15 ns ss)],14⟩) (fun p=>((ss.length:Int) - p.1).toNat) ⟨0,⟨om,om⟩⟩ (le_s [] [(5,⟨(V4:List SV)=(List.map rowI (ss.take (Int.toNat 0))),Vb1⟩)]) ?_
            rintro ⟨i1,h13,h14⟩
            show XW _ _ _ _ _ _ ⟨[(4,.int .i64 i1),(3,.loc 8 0),(2,.loc 5 0),(1,.loc 4 0)],(V24 ss i1 ns k h i j v t f m),14⟩
            refine xw_seq<|kb [(3,.i ((ss).length:Int)),(4,.bool (decide (i1<((ss).length:Int))))] 5 [14,4,3,2,1] [13,12,11,10,9,8,7,5,4,3,2,1,0] [tr,l6 rowI ss,sf (decide (i1<((ss).length:Int)))]<|xcD (i1<((ss).length:Int)) (fun h15=>?_) (fun h15=>?_)
            ·
             refine xw_skip<|an<|xw_seq<|xw_block<|ureg hmix [14,15] [⟨(V7 ss i1 ns k h i j v t f m),[],[14,15]⟩,⟨(V12 ss i1 ns k h i j v t f m),[2],[15]⟩,⟨(V7 ss i1 ns k h i j v t f m),[2,8],[15]⟩,⟨(V11 ss i1 ns k h i j v t f m),[2,8,10],[]⟩,⟨(V10 ss i1 ns k h i j v t f m),[2,8,10,12],[]⟩] [2,8,10,12] [(1,[0]),(4,[3]),(6,[3,4,5]),(7,[3,4,5,6]),(8,[2,3,4,5,6,7]),(9,[2,3,4,5,6,7,8]),(10,[0,1,2,3,4,5,6,7,8,9]),(11,[0,1,2,3,4,5,6,7,8,9,10]),(12,[0,1,2,3,4,5,6,7,8,9,10,11])] 4 16 kr<|urun_ TT_ok [(2,.own 14),(6,.sl false 1 (V8 ss i1))] nk kr 7 0 (V27 ss i1) [sm (SV.loc 8 1),True,sm (SV.loc 8 1),True,True,sm (SV.own 9),True,sm (SV.own 9),True,True,sm ((V12 ss i1 ns k h i j v t f m):Mem),sm (SV.loc 4 1),True,True,sm (SV.sl false 1 (V18 ss)),True,True,sm (SV.int .i64 i1),True,True,sm (SV.elt (.sl false 1 (V8 ss i1))),(0:Int)<=i1/\i1<((((V18 ss)).length:Nat):Int)/\((V18 ss))[(i1:Int).toNat]? = some (.sl false 1 (V8 ss i1)),(0:Int)<=i1/\i1<((((V18 ss)).length:Nat):Int)/\((V18 ss))[(i1:Int).toNat]? = some (.sl false 1 (V8 ss i1))] kr ⟨rfl,trivial,rfl,trivial,trivial,rfl,trivial,rfl,trivial,trivial,rfl,rfl,trivial,trivial,rfl,trivial,trivial,rfl,trivial,trivial,rfl,(ix_ri om lw),(ix_ri om lw),trivial⟩ ?_
             have h16:I64s (rowG ss i1):=(RIs.at rq _).1
             have h17:((rowG ss i1).length:Int) * 8<=140737488355000:=(RIs.at rq _).2
             exact urun_ TT_ok [(8,.t)] nk kr 2 7 (V25 ss i1) [sm (SV.sl false 1 (V8 ss i1)),True,True,(∀ y∈((V8 ss i1):List SV),ElemOk y)/\(false=true->1<=((V8 ss i1):List SV).length/\∀ x∈([] : List SV),ElemOk x)/\(([] : List SV).length + ((V8 ss i1):List SV).length) * 8<=140737488355328/\([] : List SV).length + ((V8 ss i1):List SV).length<=4611686018427387904,sm ((V7 ss i1 ns k h i j v t f m):Mem)] kr ⟨rfl,trivial,trivial,⟨elem_map,(fun h=>by cases h),lw,lw⟩,rfl,trivial⟩<|usets 25 (x:=false) (z:=1) (L:=(([])++((V8 ss i1)))) (L':=(V8 ss i1)) kr nil_app<|urun_ TT_ok [(9,.t),(10,.own 15)] nk kr 4 9 (V21 ss i1) [True,(∀ y∈((V29 ss i1):List SV),ElemOk y)/\(false=true->1<=((V29 ss i1):List SV).length/\∀ x∈((V16 ss i1):List SV),ElemOk x)/\(((V16 ss i1):List SV).length + ((V29 ss i1):List SV).length) * 24<=140737488355328/\((V16 ss i1):List SV).length + ((V29 ss i1):List SV).length<=4611686018427387904,sm ((V11 ss i1 ns k h i j v t f m):Mem),True,True,sm ((V10 ss i1 ns k h i j v t f m):Mem)] kr ⟨trivial,⟨elem_ri,(fun h=>by cases h),lw,lw⟩,rfl,trivial,trivial,rfl,trivial⟩<|uend<|ib<|an<|reg<|setr 15 (z:=1) (E:=29) (L:=(((V16 ss i1))++((V29 ss i1)))) (L':=(V32 ss i1)) kr mapf_app<|ka [(1,.i (i1 + 1))] 3 0 [4,3,2,1] [15,13,12,11,10,8,7,5,4,3,2,1,0] [w6 (i1 + 1)]<|en<|ag ⟨(i1 + 1),⟨om,om⟩⟩ (le_s [(9,15)] [(5,⟨((V32 ss i1):List SV)=(List.map rowI (ss.take (Int.toNat (i1 + 1)))),Vb1⟩)]) dm
            ·
             refine xw_exit<|an_exit<|ag_exit<|ib_same<|an<|kb [] 2 [2] [13,12,9,7,5,3,2,1,0] [tr,tr]<|xw_ret<|⟨.agg [.own 7,.own 9],kr,?_⟩
             refine ka [] 2 2 [21,7,6,5,3,1] [14,13,12,9,7,3,2,1,0] [tr]<|setr 9 (z:=1) (E:=29) (L:=(V16 ss i1)) (L':=(V18 ss)) kr Vcb1<|en<|an<|xw_seq<|sreg hmix [([V30,(13,.row 1 29 V4),(12,.row 1 29 V4),(9,.row 1 29 (V18 ss)),(V35 ns),V6,V20,(V3 k h i j v t f m),(V15 ns ss)],15),([V30,(13,.row 1 29 V4),(12,.row 1 29 V4),(V33 ss th),(V35 ns),V6,V20,(V3 k h i j v t f m),(V15 ns ss)],15)] [17] [(1,[0]),(4,[3]),(6,[3,4,5]),(7,[3,4,5,6]),(9,[8]),(11,[8,9,10]),(12,[8,9,10,11]),(13,[8,9,10,11,12]),(14,[8,9,10,11,12,13]),(15,[3,4,5,6,7,8,9,10,11,12,13,14]),(16,[0,1,2,3,4,5,6,7,8,9,10,11,12,13,14,15]),(17,[0,1,2,3,4,5,6,7,8,9,10,11,12,13,14,15,16])] kr kr kr kr kr<|ke [(7,.sl false 1 (V28 ss th))] 8 0 [tr,tr,tr,tr,tr,tr,⟨(0:Int)<=th/\th<((((V18 ss)).length:Nat):Int),⟨om,lw⟩⟩,⟨((V18 ss))[(th:Int).toNat]? = some (.sl false 1 (V28 ss th)),((ix_ri om lw).2.2)⟩] ?_
             have h16:I64s (rowG ss th):=(RIs.at rq _).1
             have h17:((rowG ss th).length:Int) * 8<=140737488355000:=(RIs.at rq _).2
             refine ke [(12,.sl false 1 (V28 ss th))] 5 8 [tr,tr,tr,⟨(0:Int)<=th/\th<((((V18 ss)).length:Nat):Int),⟨om,lw⟩⟩,⟨((V18 ss))[(th:Int).toNat]? = some (.sl false 1 (V28 ss th)),((ix_ri om lw).2.2)⟩] ?_
             have h18:I64s (rowG ss th):=(RIs.at rq _).1
             have h19:((rowG ss th).length:Int) * 8<=140737488355000:=(RIs.at rq _).2
             exact ke [(13,.i (((rowG ss th)).length:Int)),(14,.i ((((rowG ss th)).length:Int) - 1))] 3 13 [l6 (SV.int .i64) (rowG ss th),w6 ((((rowG ss th)).length:Int) - 1),⟨(0:Int)<=0/\0<=((((rowG ss th)).length:Int) - 1)/\((((rowG ss th)).length:Int) - 1)<=((((V28 ss th)).length:Nat):Int),⟨om,om,lw⟩⟩]<|ssets 270 (x:=false) (z:=1) (L:=((((V28 ss th)).take (((((rowG ss th)).length:Int) - 1):Int).toNat).drop (0:Int).toNat)) (L':=(V17 ss th)) kr cut0<|ke [] 2 16 [⟨(0:Int)<=th/\th<((((V18 ss)).length:Nat):Int),⟨om,lw⟩⟩,⟨((th:Int).toNat)<((V18 ss)).length,lw⟩,sf ([V30,(13,.row 1 29 V4),(12,.row 1 29 V4),(V33 ss th),(V35 ns),V6,V20,(V3 k h i j v t f m),(V15 ns ss)] : Mem),sf (15:Nat)]<|sen<|an<|kB [] 4 ⟨[(7,.p 3),(6,.p 2),(5,.p 1),(3,.p 0),(1,.i th)],[(V33 ss th),(V35 ns),V6,(2,.cells [.own 7,.own 9] 46),(V3 k h i j v t f m),(V15 ns ss)],15⟩ [tr,tr,tr]<|xw_ret<|an_ret<|bk_ret (.tup [.agg [.own 7,.own 9],.agg [.i 0,.u 0,.f]]) (.tup [.agg [.sl false 4 (V14 ns),.sl false 1 (((V18 ss)).set ((th:Int).toNat) (.sl false 1 (V17 ss th)))],.agg [.i 0,.u 0,.f]]) (.tup [.agg [.sl false 4 (V14 ns),.sl false 1 (List.map rowI (List.set ss (Int.toNat th) (List.take (Int.toNat ((((rowG ss th)).length:Int) - 1)) (rowG ss th))))],.agg [.i 0,.u 0,.f]]) kr kr (wk_s [(3,⟨(((V18 ss)).set ((th:Int).toNat) (.sl false 1 (V17 ss th)))=(List.map rowI (List.set ss (Int.toNat th) (List.take (Int.toNat ((((rowG ss th)).length:Int) - 1)) (rowG ss th)))),Vb2⟩)]) (gl (gd_pop om om))
          ·
           refine xw_skip<|an<|xw_seq<|kb [(2,.bool (k == 11))] 3 [276,7,6,5,3,1] [3,2,1,0] [tr,sf (k == 11)]<|xcE k 11 (fun h10=>?_) (fun h10=>?_)
           ·
            exact kb [] 4 [7,6,5,3,1] [3,2,1,0] [tr,tr,tr]<|xw_ret<|an_ret<|bs (.tup [.agg (V1 ns ss),.agg [.i 0,.u 0,.f]]) (gl (gd_unit om))
           ·
            refine xw_skip<|an<|xw_seq<|reg<|ka [] 4 0 [283,281,280,7,6,5,3,1] [3,2,1,0] [tr,tr] ?_
            by_cases h11:0<=h/\h<(((rowG ss th)).length:Int)
            ·
             refine pc (ghand_1 ns ss th h ZZ om ZZ om ZZ ZZ ZZ ZZ) ?_
             have h12:0<=(ix (rowG ss th) h)/\(ix (rowG ss th) h)<=(ns.length:Int):=GOk.hd ZZ om om om om
             refine ka [] 5 5 [23,22,7,6,5,3,1] [3,2,1,0] []<|en<|an<|xw_seq<|kb [(1,.f)] 2 [288,23,22,7,6,5,3,1] [3,2,1,0] [nF 0 0]<|cf<|xw_skip<|an<|xw_seq<|kb [(2,.bool (k == 9))] 3 [296,22,7,6,5,3,1] [3,2,1,0] [tr,sf (k == 9)]<|xcE k 9 (fun h13=>?_) (fun h13=>?_)
             ·
              refine xw_seq<|reg<|ka [] 3 0 [300,299,298,22,7,6,5,3,1] [3,2,1,0] [tr] ?_
              by_cases h14:16<=(((rowG ss th)).length:Int)
              ·
               exact pc (gpush_1 ns ss th (ix (rowG ss th) h) ZZ om ZZ om ZZ ZZ om ZZ)<|kA [] 6 4 ⟨[(25,.i 4),(24,.p 4),(22,.i (ix (rowG ss th) h)),(7,.p 3),(6,.p 2),(5,.p 1),(3,.p 0),(1,.i th)],[(4,.cells (V1 ns ss) 46),V6,V13,(V3 k h i j v t f m),(V15 ns ss)],5⟩ [tr]<|en<|an<|kb [] 5 [22,7,6,5,3,1] [3,2,1,0] [tr,tr,tr]<|xw_ret<|an_ret<|bs (.tup [.agg (V1 ns ss),.agg [.i 4,.u 0,.f]]) (gl (gd_full9 om om om))
              ·
               exact pc (gpush_2 ns ss th (ix (rowG ss th) h) ZZ om ZZ om ZZ ZZ om om)<|kA [] 6 4 ⟨[(25,.i 0),(24,.p 4),(22,.i (ix (rowG ss th) h)),(7,.p 3),(6,.p 2),(5,.p 1),(3,.p 0),(1,.i th)],[(4,.cells [.sl false 4 (V14 ns),.sl false 1 (V26 ss th h)] 46),V6,V13,(V3 k h i j v t f m),(V15 ns ss)],5⟩ [tr]<|en<|an<|kb [] 5 [22,7,6,5,3,1] [3,2,1,0] [tr,tr,tr]<|xw_ret<|an_ret<|br (.tup [.agg [.sl false 4 (V14 ns),.sl false 1 (V26 ss th h)],.agg [.i 0,.u 0,.f]]) (.tup [.agg [.sl false 4 (V14 ns),.sl false 1 (V26 ss th h)],.agg [.i 0,.u 0,.f]]) (wk_s [(3,⟨sm (V26 ss th h),Vb2⟩)]) (gl (gd_push om om om))
             ·
              refine xw_skip<|an<|xw_seq<|reg<|ka [] 4 0 [311,309,308,22,7,6,3] [3,2,0] [tr,tr] ?_
              by_cases h14:0<=j/\j<(((rowG ss th)).length:Int)
              ·
               refine pc (ghand_1 ns ss th j ZZ om ZZ om ZZ ZZ ZZ ZZ) ?_
               have h15:0<=(ix (rowG ss th) j)/\(ix (rowG ss th) j)<=(ns.length:Int):=GOk.hd ZZ om om om om
               refine kA [] 5 5 ⟨[(27,.i 0),(26,.i (ix (rowG ss th) j)),(22,.i (ix (rowG ss th) h)),(7,.p 3),(6,.p 2),(3,.p 0)],[V6,V13,(V15 ns ss)],4⟩ []<|en<|an<|xw_seq<|kb [(1,.f)] 2 [316,27,26,22,7,6,3] [3,2,0] [nF 0 0]<|cf<|xw_skip<|an<|kb [(3,.bool ((ix (rowG ss th) h) == (ix (rowG ss th) j)))] 7 [7,6] [3,2] [tr,sf ((ix (rowG ss th) h) == (ix (rowG ss th) j)),tr,tr]<|xw_ret ?_
               by_cases h16:(ix (rowG ss th) h)=(ix (rowG ss th) j)
               ·
                exact bs (.tup [.agg (V1 ns ss),.agg [.i 0,.u 0,.bool ((ix (rowG ss th) h) == (ix (rowG ss th) j))]]) (gl (gd_same om om om))
               ·
                exact bs (.tup [.agg (V1 ns ss),.agg [.i 0,.u 0,.bool ((ix (rowG ss th) h) == (ix (rowG ss th) j))]]) (gl (gd_same om om om))
              ·
               refine pc (ghand_2 ns ss th j ZZ om ZZ om ZZ ZZ ZZ ZZ)<|kA [] 5 5 ⟨[(27,.i 5),(26,.i 0),(22,.i (ix (rowG ss th) h)),(7,.p 3),(6,.p 2),(3,.p 0)],[V6,V13,(V15 ns ss)],4⟩ []<|en<|an<|xw_seq<|kb [(1,.t)] 2 [316,27,26,22,7,6,3] [3,2,0] [nT 5 0]<|ct<|xw_seq<|reg<|ka [] 2 0 [318,317,26,22,7,6,3] [3,2,0] [tr]<|callx (f:=29) (args:=[.agg (V1 ns ss),.i 5]) (d:=(some 319)) kr (xcall_of TT_ok Tryz.func29 rfl (by decide) nk ?_)
               refine kb [] 3 [5,4,2,1] [6,5,4,3,2,0] []<|kb [] 5 [5,4] [6,5,3,2,0] [tr,tr,tr]<|xw_ret<|⟨.tup [.agg (V1 ns ss),.agg [.i 5,.u 0,.f]],kr,?_⟩
               exact ka [] 4 3 [26,22,7,6,3] [3,2,0] [tr,tr]<|en<|an<|xw_ret<|an_ret<|bs (.tup [.agg (V1 ns ss),.agg [.i 5,.u 0,.f]]) (gl (gd_same5 om om om))
            ·
             refine pc (ghand_2 ns ss th h ZZ om ZZ om ZZ ZZ ZZ ZZ)<|ka [] 5 5 [23,22,7,6,5,3,1] [3,2,1,0] []<|en<|an<|xw_seq<|kb [(1,.t)] 2 [288,23,22,7,6,5,3,1] [3,2,1,0] [nT 5 0]<|ct<|xw_seq<|reg<|ka [] 2 0 [290,289,22,7,6,5,3,1] [3,2,1,0] [tr]<|callx (f:=29) (args:=[.agg (V1 ns ss),.i 5]) (d:=(some 291)) kr (xcall_of TT_ok Tryz.func29 rfl (by decide) nk ?_)
             refine kb [] 3 [5,4,2,1] [6,5,4,3,2,1,0] []<|kB [] 5 ⟨[(5,.p 6),(4,.p 5)],[(6,.cells [.i 5,.u 0,.f] 54),(5,.cells (V1 ns ss) 46),V6,V13,(V3 k h i j v t f m),(V15 ns ss)],7⟩ [tr,tr,tr]<|xw_ret<|⟨.tup [.agg (V1 ns ss),.agg [.i 5,.u 0,.f]],kr,?_⟩
             exact ka [] 4 3 [22,7,6,5,3,1] [3,2,1,0] [tr,tr]<|en<|an<|xw_ret<|an_ret<|bs (.tup [.agg (V1 ns ss),.agg [.i 5,.u 0,.f]]) (gl (gd_hand om om))
end Go.Proofs.YtmmfpkkamgapkaaGreat.X
