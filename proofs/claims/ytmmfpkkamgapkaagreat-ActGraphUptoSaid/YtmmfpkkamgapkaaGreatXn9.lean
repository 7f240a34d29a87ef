/- Contracts of Go functions: what each returns,for every input that its premises name; no memory of the caller is touched. Printed by a program. -/
import Derived.Test.YtmmfpkkamgapkaaGreatXt
import Derived.Test.YtmmfpkkamgapkaaGreatXq2
import Derived.Test.YtmmfpkkamgapkaaGreatXf2
import Derived.Test.YtmmfpkkamgapkaaGreatXu8
import Derived.Test.YtmmfpkkamgapkaaGreatXq5
import Derived.Test.YtmmfpkkamgapkaaGreatXe1
import Derived.Test.YtmmfpkkamgapkaaGreatXg3
import Derived.Test.YtmmfpkkamgapkaaGreatXr1
namespace Go.Proofs.YtmmfpkkamgapkaaGreat.X
open Go Go.RowKit
set_option linter.unusedVariables false
set_option linter.unusedSimpArgs false
theorem nparts (w:Int)(hp0:U6 w):Pub Tryz.prog 121 [.u w] (fun rv=>rv = .tup [.i (IntKind.i16.wrap (w / 65536)),.i (IntKind.i16.wrap w)]):=by
 refine pub_of TT_ok Tryz.func121 rfl (by decide) nk kr<|kb [] 2 [3,2,0] [] []<|xw_seq<|reg<|ka [(1,.i (w / 65536)),(2,.i (IntKind.i16.wrap (w / 65536)))] 3 0 [6,3,2,0] [] [⟨(0:Int)<=16/\w.fdiv (2 ^ min (16:Int).toNat IntKind.u64.bits)=(w / 65536),⟨om,shr_eq rfl⟩⟩,sf (IntKind.i16.wrap (w / 65536))] ?_
 have h0 : -32768<=(IntKind.i16.wrap (w / 65536))/\(IntKind.i16.wrap (w / 65536))<=32767:=wrap_i16 _
 refine ka [(3,.i (IntKind.i16.wrap (w / 65536))),(5,.i (IntKind.i16.wrap w))] 3 3 [9,7,3,2] [] [w6 (IntKind.i16.wrap (w / 65536)),sf (IntKind.i16.wrap w)] ?_
 have h1 : -32768<=(IntKind.i16.wrap w)/\(IntKind.i16.wrap w)<=32767:=wrap_i16 _
 exact kA [(6,.i (IntKind.i16.wrap w))] 3 6 ⟨[(3,.i (IntKind.i16.wrap w)),(2,.i (IntKind.i16.wrap (w / 65536)))],[],0⟩ [w6 (IntKind.i16.wrap w)]<|en<|an<|xw_ret<|bs (.tup [.i (IntKind.i16.wrap (w / 65536)),.i (IntKind.i16.wrap w)]) rfl
theorem npack (x y:Int)(hp0:I6 x)(hp1:I6 y):Pub Tryz.prog 120 [.i x,.i y] (fun rv=>rv = .u (pkN x y)):=by
 refine pub_of TT_ok Tryz.func120 rfl (by decide) nk kr<|kb [] 1 [4,0,1] [] []<|xw_seq<|reg<|ka [(1,.i (IntKind.u16.wrap x))] 2 0 [6,4,1] [] [sf (IntKind.u16.wrap x)] ?_
 have h0:0<=(IntKind.u16.wrap x)/\(IntKind.u16.wrap x)<=65535:=wrap_u16 _
 refine ka [(2,.i (IntKind.u16.wrap x)),(3,.i ((IntKind.u16.wrap x) * 65536)),(5,.i (IntKind.u16.wrap y))] 4 2 [10,8,4] [] [w7 (IntKind.u16.wrap x),⟨(0:Int)<=16/\IntKind.u64.wrap ((IntKind.u16.wrap x) * 2 ^ min (16:Int).toNat IntKind.u64.bits)=((IntKind.u16.wrap x) * 65536),⟨om,u64_eq rfl om⟩⟩,sf (IntKind.u16.wrap y)] ?_
 have h1:0<=(IntKind.u16.wrap y)/\(IntKind.u16.wrap y)<=65535:=wrap_u16 _
 exact kA [(6,.i (IntKind.u16.wrap y)),(7,.i (((IntKind.u16.wrap x) * 65536) + (IntKind.u16.wrap y)))] 3 6 ⟨[(4,.u (((IntKind.u16.wrap x) * 65536) + (IntKind.u16.wrap y)))],[],0⟩ [w7 (IntKind.u16.wrap y),⟨IntKind.u64.wrap (BitVec.ofInt 64 ((IntKind.u16.wrap x) * 65536) ||| BitVec.ofInt 64 (IntKind.u16.wrap y)).toNat=(((IntKind.u16.wrap x) * 65536) + (IntKind.u16.wrap y)),or_eq2 (q:=((IntKind.u16.wrap x))) 16 65536 rfl om om om om om⟩]<|en<|an<|xw_ret<|br (.u (((IntKind.u16.wrap x) * 65536) + (IntKind.u16.wrap y))) (.u (pkN x y)) (wk_s [(0,⟨((((IntKind.u16.wrap x) * 65536) + (IntKind.u16.wrap y)):Int)=(pkN x y),(by first | rfl | (unfold pkN; rfl))⟩)]) rfl
set_option maxHeartbeats 8000000 in
theorem nadd (a b:Int)(hp0:U6 a)(hp1:U6 b):Pub Tryz.prog 82 [.u a,.u b] (fun rv=>rv = .u (nAd a b)):=by
 refine pub_of TT_ok Tryz.func82 rfl (by decide) nk kr<|kb [] 1 [4,0,1] [] []<|xw_seq<|reg<|ka [] 1 0 [5,4,1] [] []<|callx (f:=106) (args:=[.u a]) (d:=(some 6)) kr (xcall_of TT_ok Tryz.func106 rfl (by decide) nk ?_)
 refine kb [] 1 [2,0] [] []<|xw_seq<|reg<|kA [] 1 0 ⟨[(6,.u a),(2,.raw (.complex .f64 0 0))],[],0⟩ []<|pc (nparts a ZZ) ?_
 have h0 : -32768<=(IntKind.i16.wrap (a / 65536))/\(IntKind.i16.wrap (a / 65536))<=32767:=wrap_i16 _
 have h1 : -32768<=(IntKind.i16.wrap a)/\(IntKind.i16.wrap a)<=32767:=wrap_i16 _
 refine ka [] 5 2 [4,3,2] [] []<|en<|an<|xw_seq<|reg<|ka [] 1 0 [10,4,2] [] []<|fopx_if (u:=3) (t:=173) (k:=.i64) (n:=(IntKind.i16.wrap (a / 65536))) (d:=11) (sd:=.int .i64) kr kr kr ⟨om,om⟩ (fun b2 h2=>?_)
 refine ka [] 1 2 [12,11,2] [] []<|fopx_if (u:=3) (t:=173) (k:=.i64) (n:=(IntKind.i16.wrap a)) (d:=13) (sd:=.int .i64) kr kr kr ⟨om,om⟩ (fun b3 h3=>?_)
 refine fop_cx (a:=b2) (b:=b3) (d:=14) kr<|kA [] 1 5 ⟨[(2,.raw (.complex .f64 b2 b3))],[],0⟩ []<|en<|an<|xw_ret<|⟨.raw (.complex .f64 b2 b3),kr,?_⟩
 refine ka [] 1 2 [7,6,4] [] []<|callx (f:=106) (args:=[.u b]) (d:=(some 8)) kr (xcall_of TT_ok Tryz.func106 rfl (by decide) nk ?_)
 refine kb [] 1 [2,0] [] []<|xw_seq<|reg<|kA [] 1 0 ⟨[(6,.u b),(2,.raw (.complex .f64 0 0))],[],0⟩ []<|pc (nparts b ZZ) ?_
 have h4 : -32768<=(IntKind.i16.wrap (b / 65536))/\(IntKind.i16.wrap (b / 65536))<=32767:=wrap_i16 _
 have h5 : -32768<=(IntKind.i16.wrap b)/\(IntKind.i16.wrap b)<=32767:=wrap_i16 _
 refine ka [] 5 2 [4,3,2] [] []<|en<|an<|xw_seq<|reg<|ka [] 1 0 [10,4,2] [] []<|fopx_if (u:=3) (t:=173) (k:=.i64) (n:=(IntKind.i16.wrap (b / 65536))) (d:=11) (sd:=.int .i64) kr kr kr ⟨om,om⟩ (fun b6 h6=>?_)
 refine ka [] 1 2 [12,11,2] [] []<|fopx_if (u:=3) (t:=173) (k:=.i64) (n:=(IntKind.i16.wrap b)) (d:=13) (sd:=.int .i64) kr kr kr ⟨om,om⟩ (fun b7 h7=>?_)
 refine fop_cx (a:=b6) (b:=b7) (d:=14) kr<|kA [] 1 5 ⟨[(2,.raw (.complex .f64 b6 b7))],[],0⟩ []<|en<|an<|xw_ret<|⟨.raw (.complex .f64 b6 b7),kr,?_⟩
 refine fopx_ad (a:=b2) (b:=b3) (a':=b6) (b':=b7) (x:=(IntKind.i16.wrap (a / 65536))) (y:=(IntKind.i16.wrap a)) (u:=(IntKind.i16.wrap (b / 65536))) (v:=(IntKind.i16.wrap b)) (d:=9) kr h2 h3 h6 h7 ⟨om,om⟩ ⟨om,om⟩ (fun u8 v8 h8 h9=>?_)
 refine callx (f:=105) (args:=[.raw (.complex .f64 u8 v8)]) (d:=(some 10)) kr (xcall_of TT_ok Tryz.func105 rfl (by decide) nk ?_)
 refine kb [] 1 [2,0] [] []<|kb [] 1 [3,2,0] [] []<|xw_seq<|reg<|kA [] 2 0 ⟨[(5,.raw (.complex .f64 u8 v8)),(4,.fn 119 [] []),(3,.fn 119 [] []),(2,.u 0),(0,.raw (.complex .f64 u8 v8))],[],0⟩ []<|fop_re (a:=u8) (b:=v8) (d:=6) kr<|callx (f:=119) (args:=[.raw (.float .f64 u8)]) (d:=(some 7)) kr (xcall_of TT_ok Tryz.func119 rfl (by decide) nk ?_)
 refine kb [] 1 [2,0] [] []<|xw_seq<|reg<|ka [] 1 0 [3,2] [] []<|fopx_fi (u:=173) (t:=3) (b:=u8) (n:=((IntKind.i16.wrap (a / 65536)) + (IntKind.i16.wrap (b / 65536)))) (d:=4) (sd:=.float .f64) kr kr kr h8 om<|ka [] 1 2 [2] [] []<|en<|an<|xw_ret<|⟨.i ((IntKind.i16.wrap (a / 65536)) + (IntKind.i16.wrap (b / 65536))),kr,?_⟩
 show XOi _ _ _ _ _ _ _ ⟨[(7,.i ((IntKind.i16.wrap (a / 65536)) + (IntKind.i16.wrap (b / 65536)))),(6,.raw (.float .f64 u8)),(5,.raw (.complex .f64 u8 v8)),(4,.fn 119 [] []),(3,.fn 119 [] []),(2,.u 0),(0,.raw (.complex .f64 u8 v8))],[],0⟩
 refine ka [] 2 4 [9,8,7,2] [] []<|fop_im (a:=u8) (b:=v8) (d:=10) kr<|callx (f:=119) (args:=[.raw (.float .f64 v8)]) (d:=(some 11)) kr (xcall_of TT_ok Tryz.func119 rfl (by decide) nk ?_)
 refine kb [] 1 [2,0] [] []<|xw_seq<|reg<|ka [] 1 0 [3,2] [] []<|fopx_fi (u:=173) (t:=3) (b:=v8) (n:=((IntKind.i16.wrap a) + (IntKind.i16.wrap b))) (d:=4) (sd:=.float .f64) kr kr kr h9 om<|kA [] 1 2 ⟨[(2,.i ((IntKind.i16.wrap a) + (IntKind.i16.wrap b)))],[],0⟩ []<|en<|an<|xw_ret<|⟨.i ((IntKind.i16.wrap a) + (IntKind.i16.wrap b)),kr,?_⟩
 refine pc (npack ((IntKind.i16.wrap (a / 65536)) + (IntKind.i16.wrap (b / 65536))) ((IntKind.i16.wrap a) + (IntKind.i16.wrap b)) om om) ?_
 have h10:U6 (pkN ((IntKind.i16.wrap (a / 65536)) + (IntKind.i16.wrap (b / 65536))) ((IntKind.i16.wrap a) + (IntKind.i16.wrap b))):=pkN_ok _ _
 refine ka [] 1 9 [2] [] []<|en<|an<|xw_ret<|⟨.u (pkN ((IntKind.i16.wrap (a / 65536)) + (IntKind.i16.wrap (b / 65536))) ((IntKind.i16.wrap a) + (IntKind.i16.wrap b))),kr,?_⟩
 exact kA [] 1 6 ⟨[(4,.u (pkN ((IntKind.i16.wrap (a / 65536)) + (IntKind.i16.wrap (b / 65536))) ((IntKind.i16.wrap a) + (IntKind.i16.wrap b))))],[],0⟩ []<|en<|an<|xw_ret<|br (.u (pkN ((IntKind.i16.wrap (a / 65536)) + (IntKind.i16.wrap (b / 65536))) ((IntKind.i16.wrap a) + (IntKind.i16.wrap b)))) (.u (nAd a b)) (wk_s [(0,⟨((pkN ((IntKind.i16.wrap (a / 65536)) + (IntKind.i16.wrap (b / 65536))) ((IntKind.i16.wrap a) + (IntKind.i16.wrap b))):Int)=(nAd a b),(by first | rfl | (unfold nAd nMu pkN; rfl) | exact rfl)⟩)]) rfl
set_option maxHeartbeats 8000000 in
theorem nmul (a b:Int)(hp0:U6 a)(hp1:U6 b):Pub Tryz.prog 83 [.u a,.u b] (fun rv=>rv = .u (nMu a b)):=by
 refine pub_of TT_ok Tryz.func83 rfl (by decide) nk kr<|kb [] 1 [4,0,1] [] []<|xw_seq<|reg<|ka [] 1 0 [5,4,1] [] []<|callx (f:=106) (args:=[.u a]) (d:=(some 6)) kr (xcall_of TT_ok Tryz.func106 rfl (by decide) nk ?_)
 refine kb [] 1 [2,0] [] []<|xw_seq<|reg<|kA [] 1 0 ⟨[(6,.u a),(2,.raw (.complex .f64 0 0))],[],0⟩ []<|pc (nparts a ZZ) ?_
 have h0 : -32768<=(IntKind.i16.wrap (a / 65536))/\(IntKind.i16.wrap (a / 65536))<=32767:=wrap_i16 _
 have h1 : -32768<=(IntKind.i16.wrap a)/\(IntKind.i16.wrap a)<=32767:=wrap_i16 _
 refine ka [] 5 2 [4,3,2] [] []<|en<|an<|xw_seq<|reg<|ka [] 1 0 [10,4,2] [] []<|fopx_if (u:=3) (t:=173) (k:=.i64) (n:=(IntKind.i16.wrap (a / 65536))) (d:=11) (sd:=.int .i64) kr kr kr ⟨om,om⟩ (fun b2 h2=>?_)
 refine ka [] 1 2 [12,11,2] [] []<|fopx_if (u:=3) (t:=173) (k:=.i64) (n:=(IntKind.i16.wrap a)) (d:=13) (sd:=.int .i64) kr kr kr ⟨om,om⟩ (fun b3 h3=>?_)
 refine fop_cx (a:=b2) (b:=b3) (d:=14) kr<|kA [] 1 5 ⟨[(2,.raw (.complex .f64 b2 b3))],[],0⟩ []<|en<|an<|xw_ret<|⟨.raw (.complex .f64 b2 b3),kr,?_⟩
 refine ka [] 1 2 [7,6,4] [] []<|callx (f:=106) (args:=[.u b]) (d:=(some 8)) kr (xcall_of TT_ok Tryz.func106 rfl (by decide) nk ?_)
 refine kb [] 1 [2,0] [] []<|xw_seq<|reg<|kA [] 1 0 ⟨[(6,.u b),(2,.raw (.complex .f64 0 0))],[],0⟩ []<|pc (nparts b ZZ) ?_
 have h4 : -32768<=(IntKind.i16.wrap (b / 65536))/\(IntKind.i16.wrap (b / 65536))<=32767:=wrap_i16 _
 have h5 : -32768<=(IntKind.i16.wrap b)/\(IntKind.i16.wrap b)<=32767:=wrap_i16 _
 refine ka [] 5 2 [4,3,2] [] []<|en<|an<|xw_seq<|reg<|ka [] 1 0 [10,4,2] [] []<|fopx_if (u:=3) (t:=173) (k:=.i64) (n:=(IntKind.i16.wrap (b / 65536))) (d:=11) (sd:=.int .i64) kr kr kr ⟨om,om⟩ (fun b6 h6=>?_)
 refine ka [] 1 2 [12,11,2] [] []<|fopx_if (u:=3) (t:=173) (k:=.i64) (n:=(IntKind.i16.wrap b)) (d:=13) (sd:=.int .i64) kr kr kr ⟨om,om⟩ (fun b7 h7=>?_)
 refine fop_cx (a:=b6) (b:=b7) (d:=14) kr<|kA [] 1 5 ⟨[(2,.raw (.complex .f64 b6 b7))],[],0⟩ []<|en<|an<|xw_ret<|⟨.raw (.complex .f64 b6 b7),kr,?_⟩
 have h8:=sm_mul (x:=(IntKind.i16.wrap (a / 65536))) (y:=(IntKind.i16.wrap (b / 65536))) om om
 have h9:=sm_mul (x:=(IntKind.i16.wrap a)) (y:=(IntKind.i16.wrap b)) om om
 have h10:=sm_mul (x:=(IntKind.i16.wrap (a / 65536))) (y:=(IntKind.i16.wrap b)) om om
 have h11:=sm_mul (x:=(IntKind.i16.wrap a)) (y:=(IntKind.i16.wrap (b / 65536))) om om
 refine fopx_mu (a:=b2) (b:=b3) (a':=b6) (b':=b7) (x:=(IntKind.i16.wrap (a / 65536))) (y:=(IntKind.i16.wrap a)) (u:=(IntKind.i16.wrap (b / 65536))) (v:=(IntKind.i16.wrap b)) (d:=9) kr h2 h3 h6 h7 ⟨om,om⟩ ⟨om,om⟩ ⟨om,om⟩ ⟨om,om⟩ ⟨om,om⟩ ⟨om,om⟩ (fun u8 v8 h12 h13=>?_)
 refine callx (f:=105) (args:=[.raw (.complex .f64 u8 v8)]) (d:=(some 10)) kr (xcall_of TT_ok Tryz.func105 rfl (by decide) nk ?_)
 refine kb [] 1 [2,0] [] []<|kb [] 1 [3,2,0] [] []<|xw_seq<|reg<|kA [] 2 0 ⟨[(5,.raw (.complex .f64 u8 v8)),(4,.fn 119 [] []),(3,.fn 119 [] []),(2,.u 0),(0,.raw (.complex .f64 u8 v8))],[],0⟩ []<|fop_re (a:=u8) (b:=v8) (d:=6) kr<|callx (f:=119) (args:=[.raw (.float .f64 u8)]) (d:=(some 7)) kr (xcall_of TT_ok Tryz.func119 rfl (by decide) nk ?_)
 refine kb [] 1 [2,0] [] []<|xw_seq<|reg<|ka [] 1 0 [3,2] [] []<|fopx_fi (u:=173) (t:=3) (b:=u8) (n:=((IntKind.i16.wrap (a / 65536)) * (IntKind.i16.wrap (b / 65536)) - (IntKind.i16.wrap a) * (IntKind.i16.wrap b))) (d:=4) (sd:=.float .f64) kr kr kr h12 om<|ka [] 1 2 [2] [] []<|en<|an<|xw_ret<|⟨.i ((IntKind.i16.wrap (a / 65536)) * (IntKind.i16.wrap (b / 65536)) - (IntKind.i16.wrap a) * (IntKind.i16.wrap b)),kr,?_⟩
 show XOi _ _ _ _ _ _ _ ⟨[(7,.i ((IntKind.i16.wrap (a / 65536)) * (IntKind.i16.wrap (b / 65536)) - (IntKind.i16.wrap a) * (IntKind.i16.wrap b))),(6,.raw (.float .f64 u8)),(5,.raw (.complex .f64 u8 v8)),(4,.fn 119 [] []),(3,.fn 119 [] []),(2,.u 0),(0,.raw (.complex .f64 u8 v8))],[],0⟩
 refine ka [] 2 4 [9,8,7,2] [] []<|fop_im (a:=u8) (b:=v8) (d:=10) kr<|callx (f:=119) (args:=[.raw (.float .f64 v8)]) (d:=(some 11)) kr (xcall_of TT_ok Tryz.func119 rfl (by decide) nk ?_)
 refine kb [] 1 [2,0] [] []<|xw_seq<|reg<|ka [] 1 0 [3,2] [] []<|fopx_fi (u:=173) (t:=3) (b:=v8) (n:=((IntKind.i16.wrap (a / 65536)) * (IntKind.i16.wrap b) + (IntKind.i16.wrap a) * (IntKind.i16.wrap (b / 65536)))) (d:=4) (sd:=.float .f64) kr kr kr h13 om<|kA [] 1 2 ⟨[(2,.i ((IntKind.i16.wrap (a / 65536)) * (IntKind.i16.wrap b) + (IntKind.i16.wrap a) * (IntKind.i16.wrap (b / 65536))))],[],0⟩ []<|en<|an<|xw_ret<|⟨.i ((IntKind.i16.wrap (a / 65536)) * (IntKind.i16.wrap b) + (IntKind.i16.wrap a) * (IntKind.i16.wrap (b / 65536))),kr,?_⟩
 refine pc (npack ((IntKind.i16.wrap (a / 65536)) * (IntKind.i16.wrap (b / 65536)) - (IntKind.i16.wrap a) * (IntKind.i16.wrap b)) ((IntKind.i16.wrap (a / 65536)) * (IntKind.i16.wrap b) + (IntKind.i16.wrap a) * (IntKind.i16.wrap (b / 65536))) om om) ?_
 have h14:U6 (pkN ((IntKind.i16.wrap (a / 65536)) * (IntKind.i16.wrap (b / 65536)) - (IntKind.i16.wrap a) * (IntKind.i16.wrap b)) ((IntKind.i16.wrap (a / 65536)) * (IntKind.i16.wrap b) + (IntKind.i16.wrap a) * (IntKind.i16.wrap (b / 65536)))):=pkN_ok _ _
 refine ka [] 1 9 [2] [] []<|en<|an<|xw_ret<|⟨.u (pkN ((IntKind.i16.wrap (a / 65536)) * (IntKind.i16.wrap (b / 65536)) - (IntKind.i16.wrap a) * (IntKind.i16.wrap b)) ((IntKind.i16.wrap (a / 65536)) * (IntKind.i16.wrap b) + (IntKind.i16.wrap a) * (IntKind.i16.wrap (b / 65536)))),kr,?_⟩
 exact kA [] 1 6 ⟨[(4,.u (pkN ((IntKind.i16.wrap (a / 65536)) * (IntKind.i16.wrap (b / 65536)) - (IntKind.i16.wrap a) * (IntKind.i16.wrap b)) ((IntKind.i16.wrap (a / 65536)) * (IntKind.i16.wrap b) + (IntKind.i16.wrap a) * (IntKind.i16.wrap (b / 65536)))))],[],0⟩ []<|en<|an<|xw_ret<|br (.u (pkN ((IntKind.i16.wrap (a / 65536)) * (IntKind.i16.wrap (b / 65536)) - (IntKind.i16.wrap a) * (IntKind.i16.wrap b)) ((IntKind.i16.wrap (a / 65536)) * (IntKind.i16.wrap b) + (IntKind.i16.wrap a) * (IntKind.i16.wrap (b / 65536))))) (.u (nMu a b)) (wk_s [(0,⟨((pkN ((IntKind.i16.wrap (a / 65536)) * (IntKind.i16.wrap (b / 65536)) - (IntKind.i16.wrap a) * (IntKind.i16.wrap b)) ((IntKind.i16.wrap (a / 65536)) * (IntKind.i16.wrap b) + (IntKind.i16.wrap a) * (IntKind.i16.wrap (b / 65536)))):Int)=(nMu a b),(by first | rfl | (unfold nAd nMu pkN; rfl) | exact rfl)⟩)]) rfl
set_option linter.unusedVariables false
set_option linter.unusedSimpArgs false
abbrev N4(l:List Int):=m64 (l.take (((l.length:Int):Int).toNat))
theorem Nb1{p:Prop}(h:p:=by first | rfl | (simp; done)):p:=h
theorem spush (l:List Int)(a:Int)(hp0:(l.length:Int) * 8<=140737488355000)(hp1:U64s l):Pub Tryz.prog 81 [(s64 l),.u a] (fun rv=>((16<=(l.length:Int))/\rv = .tup [(s64 l),.i 4])\/(((l.length:Int)<16)/\rv = .tup [(s64 (l++[a])),.i 0])):=by
 refine pub_of TT_ok Tryz.func81 rfl (by decide) nk kr<|kb [] 2 [5,4,0,1] [] []<|xw_seq<|kb [(1,.i ((l).length:Int)),(2,.bool (decide (16<=((l).length:Int))))] 3 [8,5,4,0,1] [] [l6 (SV.int .u64) l,sf (decide (16<=((l).length:Int)))]<|xcD (16<=((l).length:Int)) (fun h0=>?_) (fun h0=>?_)
 ·
  exact kb [] 3 [5,4,0,1] [] []<|xw_ret<|an_ret<|bs (.tup [(s64 l),.i 4]) (Or.inl <| ⟨om,rfl⟩)
 ·
  exact xw_skip<|an<|xw_seq<|reg<|ka [(2,.i ((l).length:Int)),(4,.i ((l).length:Int))] 6 0 [15,5,4,1] [] [l6 (SV.int .u64) l,l6 (SV.int .u64) l,⟨(0:Int)<=0/\0<=((l).length:Int)/\((l).length:Int)=((l).length:Int)/\((l).length:Int)<=((((m64 l)).length:Nat):Int),⟨om,om,om,lw⟩⟩]<|sets 15 (x:=true) (z:=1) (L:=((((m64 l)).take (((l).length:Int):Int).toNat).drop (0:Int).toNat)) (L':=(N4 l)) kr cut0<|kA [(7,.t)] 3 6 ⟨[(18,.own 0),(5,.i 0),(4,.nils)],[(0,.row 1 52 (((N4 l))++([.u a])))],1⟩ [⟨(∀ y∈([.u a] : List SV),ElemOk y)/\(true=true->1<=([.u a] : List SV).length/\∀ x∈((N4 l):List SV),ElemOk x)/\(((N4 l):List SV).length + ([.u a] : List SV).length) * 8<=140737488355328/\((N4 l):List SV).length + ([.u a] : List SV).length<=4611686018427387904,⟨(by intro y hy; simp at hy; first | (subst hy; rfl) | (rcases hy with rfl | rfl <;> rfl)),(fun _=>⟨lw,elem_map⟩),lw,lw⟩⟩]<|setr 0 (z:=1) (E:=52) (L:=(((N4 l))++([.u a]))) (L':=(m64 ((l.take (((l.length:Int):Int).toNat))++[a]))) kr app_one<|ka [] 2 9 [5,4] [0] []<|en<|an<|xw_ret<|bk_ret (.tup [.own 0,.i 0]) (.tup [(s64 ((l.take (((l.length:Int):Int).toNat))++[a])),.i 0]) (.tup [(s64 (l++[a])),.i 0]) kr kr (wk_s [(1,⟨(m64 ((l.take (((l.length:Int):Int).toNat))++[a]))=(m64 (l++[a])),Nb1⟩)]) (Or.inr <| ⟨om,rfl⟩)
theorem spush_1 (l:List Int)(a:Int)(hp0:(l.length:Int) * 8<=140737488355000)(hp1:U64s l)(hp2:16<=(l.length:Int)):Pub Tryz.prog 81 [(s64 l),.u a] (fun rv=>rv = .tup [(s64 l),.i 4]) :=
  (spush l a hp0 hp1).mono vr
theorem spush_2 (l:List Int)(a:Int)(hp0:(l.length:Int) * 8<=140737488355000)(hp1:U64s l)(hp2:(l.length:Int)<16):Pub Tryz.prog 81 [(s64 l),.u a] (fun rv=>rv = .tup [(s64 (l++[a])),.i 0]) :=
  (spush l a hp0 hp1).mono vr
theorem spop (l:List Int)(hp0:(l.length:Int) * 8<=140737488355000)(hp1:U64s l):Pub Tryz.prog 61 [(s64 l)] (fun rv=>(((l.length:Int)=0)/\rv = .tup [(s64 l),.i 9])\/((0<(l.length:Int))/\rv = .tup [(s64 (l.take (Int.toNat ((l.length:Int) - 1)))),.i 0])):=by
 refine pub_of TT_ok Tryz.func61 rfl (by decide) nk kr<|kb [] 2 [3,2,0] [] []<|kb [(1,.i ((l).length:Int)),(2,.i (((l).length:Int) - 1))] 4 [4,3,2,0] [] [l6 (SV.int .u64) l,w6 (((l).length:Int) - 1)]<|xw_seq<|kb [(1,.bool (decide ((((l).length:Int) - 1)<0)))] 2 [9,4,3,2,0] [] [sf (decide ((((l).length:Int) - 1)<0))]<|xcD ((((l).length:Int) - 1)<0) (fun h0=>?_) (fun h0=>?_)
 ·
  exact kB [] 3 ⟨[(3,.i 9),(2,(s64 l)),(4,.i (((l).length:Int) - 1)),(0,(s64 l))],[],0⟩ []<|xw_ret<|an_ret<|bs (.tup [(s64 l),.i 9]) (Or.inl <| ⟨om,rfl⟩)
 ·
  exact xw_skip<|an<|xw_seq<|reg<|kA [] 4 0 ⟨[(14,.sl true 1 ((((m64 l)).take ((((l).length:Int) - 1):Int).toNat).drop (0:Int).toNat)),(3,.i 0),(2,.nils)],[],0⟩ [⟨(0:Int)<=0/\0<=(((l).length:Int) - 1)/\(((l).length:Int) - 1)=(((l).length:Int) - 1)/\(((l).length:Int) - 1)<=((((m64 l)).length:Nat):Int),⟨om,om,om,lw⟩⟩]<|sets 14 (x:=true) (z:=1) (L:=((((m64 l)).take ((((l).length:Int) - 1):Int).toNat).drop (0:Int).toNat)) (L':=(m64 (l.take ((((l.length:Int) - 1):Int).toNat)))) kr cut0<|ka [] 2 4 [3,2] [] []<|en<|an<|xw_ret<|br (.tup [.sl true 1 (m64 (l.take ((((l.length:Int) - 1):Int).toNat))),.i 0]) (.tup [(s64 (l.take (Int.toNat ((l.length:Int) - 1)))),.i 0]) (wk_s [(0,⟨(false=true->true=true),(fun h=>by cases h)⟩),(1,⟨(m64 (l.take ((((l.length:Int) - 1):Int).toNat)))=(m64 (l.take (Int.toNat ((l.length:Int) - 1)))),Nb1⟩)]) (Or.inr <| ⟨om,rfl⟩)
theorem spop_1 (l:List Int)(hp0:(l.length:Int) * 8<=140737488355000)(hp1:U64s l)(hp2:(l.length:Int)=0):Pub Tryz.prog 61 [(s64 l)] (fun rv=>rv = .tup [(s64 l),.i 9]) :=
  (spop l hp0 hp1).mono vr
theorem spop_2 (l:List Int)(hp0:(l.length:Int) * 8<=140737488355000)(hp1:U64s l)(hp2:0<(l.length:Int)):Pub Tryz.prog 61 [(s64 l)] (fun rv=>rv = .tup [(s64 (l.take (Int.toNat ((l.length:Int) - 1)))),.i 0]) :=
  (spop l hp0 hp1).mono vr
theorem sget (l:List Int)(h:Int)(hp0:(l.length:Int) * 8<=140737488355000)(hp1:U64s l)(hp2:I6 h):Pub Tryz.prog 84 [(s64 l),.i h] (fun rv=>((¬ (0<=h/\h<(l.length:Int)))/\rv = .tup [.u 0,.i 5])\/((0<=h/\h<(l.length:Int))/\rv = .tup [.u (ix l h),.i 0])):=by
 refine pub_of TT_ok Tryz.func84 rfl (by decide) nk kr<|kb [] 2 [5,4,0,1] [] []<|xw_seq<|xw_seq<|reg<|ka [(1,.bool (decide (h<0)))] 3 0 [8,5,4,0,1] [] [sf (decide (h<0))]<|splitr 8 (x:=(decide (h<0))) kr (fun h0=>?_) (fun h0=>?_)
 ·
  replace h0:h<0:=of_decide_eq_true h0
  exact ka [] 5 3 [13,5,4,0,1] [] [tr]<|en<|an<|ct<|kB [] 2 ⟨[(5,.i 5),(4,.u 0),(0,(s64 l)),(1,.i h)],[],0⟩ []<|xw_ret<|an_ret<|bs (.tup [.u 0,.i 5]) (Or.inl <| ⟨om,rfl⟩)
 ·
  replace h0:¬ (h<0):=of_decide_eq_false h0
  refine ka [(5,.i ((l).length:Int)),(6,.bool (decide (((l).length:Int)<=h)))] 5 3 [13,5,4,0,1] [] [l6 (SV.int .u64) l,sf (decide (((l).length:Int)<=h)),tr]<|en<|an<|xcD (((l).length:Int)<=h) (fun h1=>?_) (fun h1=>?_)
  ·
   exact kB [] 2 ⟨[(5,.i 5),(4,.u 0),(0,(s64 l)),(1,.i h)],[],0⟩ []<|xw_ret<|an_ret<|bs (.tup [.u 0,.i 5]) (Or.inl <| ⟨om,rfl⟩)
  ·
   refine xw_skip<|an<|xw_seq<|reg<|kA [(2,.u (ix l h))] 3 0 ⟨[(16,.elt (.u (ix l h))),(5,.i 0),(4,.u 0)],[],0⟩ [x6 .u64 l h] ?_
   have h2:U6 (ix l h):=U64s.ix rq _
   exact ka [] 3 3 [5,4] [] [tr]<|en<|an<|xw_ret<|bs (.tup [.u (ix l h),.i 0]) (Or.inr <| ⟨om,rfl⟩)
theorem sget_1 (l:List Int)(h:Int)(hp0:(l.length:Int) * 8<=140737488355000)(hp1:U64s l)(hp2:I6 h)(hp3:¬ (0<=h/\h<(l.length:Int))):Pub Tryz.prog 84 [(s64 l),.i h] (fun rv=>rv = .tup [.u 0,.i 5]) :=
  (sget l h hp0 hp1 hp2).mono vr
theorem sget_2 (l:List Int)(h:Int)(hp0:(l.length:Int) * 8<=140737488355000)(hp1:U64s l)(hp2:I6 h)(hp3:0<=h/\h<(l.length:Int)):Pub Tryz.prog 84 [(s64 l),.i h] (fun rv=>rv = .tup [.u (ix l h),.i 0]) :=
  (sget l h hp0 hp1 hp2).mono vr
theorem sreal (l:List Int)(h:Int)(hp0:(l.length:Int) * 8<=140737488355000)(hp1:U64s l)(hp2:I6 h):Pub Tryz.prog 78 [(s64 l),.i h] (fun rv=>((¬ (0<=h/\h<(l.length:Int)))/\rv = .tup [.u 0,.i 5])\/((0<=h/\h<(l.length:Int))/\((ix l h)=0)/\rv = .tup [.u 0,.i 6])\/((0<=h/\h<(l.length:Int))/\((ix l h)≠0)/\rv = .tup [.u (ix l h),.i 0])):=by
 refine pub_of TT_ok Tryz.func78 rfl (by decide) nk kr<|kb [] 2 [5,4,0,1] [] []<|xw_seq<|reg<|ka [] 2 0 [10,9,5,4] [] [] ?_
 by_cases h0:¬ (0<=h/\h<(l.length:Int))
 ·
  exact pc (sget_1 l h om ZZ ZZ ZZ)<|ka [] 5 3 [7,6,5,4] [] []<|en<|an<|xw_seq<|kB [(1,.f)] 6 ⟨[(19,.f),(7,.i 5),(6,.u 0),(5,.i 0),(4,.u 0)],[],0⟩ [qF 5 0,tr]<|cf<|xw_skip<|an<|kb [] 4 [5,4] [] []<|xw_ret<|bs (.tup [.u 0,.i 5]) (Or.inl <| ⟨om,rfl⟩)
 ·
  refine pc (sget_2 l h om ZZ ZZ om)<|ka [] 5 3 [7,6,5,4] [] []<|en<|an<|xw_seq<|kB [(1,.t),(4,.bool ((ix l h) == 0))] 6 ⟨[(19,.bool ((ix l h) == 0)),(7,.i 0),(6,.u (ix l h)),(5,.i 0),(4,.u 0)],[],0⟩ [qT 0 0,sf ((ix l h) == 0),tr]<|xcE (ix l h) 0 (fun h1=>?_) (fun h1=>?_)
  ·
   exact kc [] 1 [7,6,5,4] [] []<|an<|kb [] 4 [5,4] [] []<|xw_ret<|br (.tup [.u (ix l h),.i 6]) (.tup [.u 0,.i 6]) (wk_s [(0,⟨((ix l h):Int)=0,om⟩)]) (Or.inr <| Or.inl <| ⟨om,om,rfl⟩)
  ·
   exact xw_skip<|an<|kb [] 4 [5,4] [] []<|xw_ret<|bs (.tup [.u (ix l h),.i 0]) (Or.inr <| Or.inr <| ⟨om,om,rfl⟩)
theorem sreal_1 (l:List Int)(h:Int)(hp0:(l.length:Int) * 8<=140737488355000)(hp1:U64s l)(hp2:I6 h)(hp3:¬ (0<=h/\h<(l.length:Int))):Pub Tryz.prog 78 [(s64 l),.i h] (fun rv=>rv = .tup [.u 0,.i 5]) :=
  (sreal l h hp0 hp1 hp2).mono vr
theorem sreal_2 (l:List Int)(h:Int)(hp0:(l.length:Int) * 8<=140737488355000)(hp1:U64s l)(hp2:I6 h)(hp3:0<=h/\h<(l.length:Int))(hp4:(ix l h)=0):Pub Tryz.prog 78 [(s64 l),.i h] (fun rv=>rv = .tup [.u 0,.i 6]) :=
  (sreal l h hp0 hp1 hp2).mono vr
theorem sreal_3 (l:List Int)(h:Int)(hp0:(l.length:Int) * 8<=140737488355000)(hp1:U64s l)(hp2:I6 h)(hp3:0<=h/\h<(l.length:Int))(hp4:(ix l h)≠0):Pub Tryz.prog 78 [(s64 l),.i h] (fun rv=>rv = .tup [.u (ix l h),.i 0]) :=
  (sreal l h hp0 hp1 hp2).mono vr
set_option linter.unusedVariables false
set_option linter.unusedSimpArgs false
abbrev O1(W:Int)(xs ys:List Int)(f0 f1 f2 t0 t1 t2 sz lm:Int)(ts:List Th)(ph scn fl:Int)(os:List Int)(brk:Int)(st:List Int)(b0 b1:Int)(lg:List Ent)(lf:List OpV)(pd:List Ent)(wt:Bool)(dn:List AnsV)(k h i j v t f m:Int):Mem:=[(0,.cells (bx W xs ys f0 f1 f2 t0 t1 t2 sz lm ts ph scn fl os brk st b0 b1 lg lf pd wt dn k h i j v t f m 0 0 false false) 79)]
theorem Ob2{p:Prop}(h:p:=by first | exact fE_5 | exact fE_6 | exact fE_10 | exact fE_7 | exact fE_8):p:=h
theorem Ob1{p:Prop}(h:p:=by first | exact decide_eq_true om | exact decide_eq_false om | (simp; done) | (simp; omega) | (simp_all; done) | (simp_all; omega) | grind):p:=h
theorem wset (W:Int)(xs ys:List Int)(f0 f1 f2 t0 t1 t2 sz lm:Int)(ts:List Th)(ph scn fl:Int)(os:List Int)(brk:Int)(st:List Int)(b0 b1:Int)(lg:List Ent)(lf:List OpV)(pd:List Ent)(wt:Bool)(dn:List AnsV)(k h i j v t f m a w:Int)(hp0:16<=W/\W<=4096)(hp1:(xs.length:Int)=W)(hp2:(ys.length:Int)=W)(hp3:U64s xs)(hp4:U64s ys)(hp5:ph=0)(hp6:I6 i)(hp7:U6 a)(hp8:U6 w)(hp9:(oErr W xs ys a)=0)(hp10:(ldw xs ys a / 72057594037927936)≠255)(hp11:0<=i/\i<((ldw xs ys a / 4294967296) % 16777216)):MCall Tryz.prog 57 [.p 0,.u a,.u w] (O1 W xs ys f0 f1 f2 t0 t1 t2 sz lm ts ph scn fl os brk st b0 b1 lg lf pd wt dn k h i j v t f m) 1 1 (fun zx zm=>(zx = .tup []/\zm=[(0,.cells (bx W (stx xs (a + 2 + i) w) (sty ys (a + 2 + i) w) f0 f1 f2 t0 t1 t2 sz lm ts ph scn fl os brk st b0 b1 lg lf pd wt dn k h i j v t f m 0 0 false false) 79)])):=by
 refine mcall_of kr kr (xcall_of TT_ok Tryz.func57 rfl (by decide) nk ?_)
 refine xw_seq<|sreg hmix [((O1 W xs ys f0 f1 f2 t0 t1 t2 sz lm ts ph scn fl os brk st b0 b1 lg lf pd wt dn k h i j v t f m),1),([(0,.cells (bx W (stx xs (a + 2 + i) w) (sty ys (a + 2 + i) w) f0 f1 f2 t0 t1 t2 sz lm ts ph scn fl os brk st b0 b1 lg lf pd wt dn k h i j v t f m 0 0 false false) 79)],1)] [20] [(2,[1]),(3,[1,2]),(4,[1,2,3]),(5,[1,2,3,4]),(8,[7]),(9,[7,8]),(10,[7,8,9]),(11,[7,8,9,10]),(13,[1,2,3,4,5,6,7,8,9,10,11,12]),(14,[1,2,3,4,5,6,7,8,9,10,11,12,13]),(15,[1,2,3,4,5,6,7,8,9,10,11,12,13,14]),(16,[1,2,3,4,5,6,7,8,9,10,11,12,13,14]),(17,[0,1,2,3,4,5,6,7,8,9,10,11,12,13,14,15]),(18,[0,1,2,3,4,5,6,7,8,9,10,11,12,13,14,15,17]),(19,[0,1,2,3,4,5,6,7,8,9,10,11,12,13,14,15,17,18]),(20,[0,1,2,3,4,5,6,7,8,9,10,11,12,13,14,15,17,18,19])] kr kr kr kr kr<|ke [] 13 0 [tr,tr,tr,tr,tr,tr,tr,tr,tr,tr,tr,tr,tr]<|sc (oset_1 W xs ys a i w ZZ ZZ ZZ ZZ ZZ ZZ ZZ ZZ ZZ ZZ ZZ) ?_
 obtain ⟨h0,h1,h2⟩:=oErr_ok W xs ys a ZZ
 obtain ⟨h3,h4,h5,h6⟩:=stx_ok W xs ys (a + 2 + i) w ZZ ZZ ZZ ZZ om
 exact ke [] 7 14 [tr,tr,tr,tr,tr,tr,tr,sf ([(0,.cells (bx W (stx xs (a + 2 + i) w) (sty ys (a + 2 + i) w) f0 f1 f2 t0 t1 t2 sz lm ts ph scn fl os brk st b0 b1 lg lf pd wt dn k h i j v t f m 0 0 false false) 79)] : Mem),sf (1:Nat)]<|sen<|an<|kb [(5,.f)] 6 [31,0,1] [0] [tr,tr,qF ph 1]<|cf<|xw_skip<|⟨.tup [],kr,_,⟨rfl,rfl⟩,rfl,le_cutm ⟨kr,trivial⟩⟩
theorem wpushh (W:Int)(xs ys:List Int)(f0 f1 f2 t0 t1 t2 sz lm:Int)(ts:List Th)(ph scn fl:Int)(os:List Int)(brk:Int)(st:List Int)(b0 b1:Int)(lg:List Ent)(lf:List OpV)(pd:List Ent)(wt:Bool)(dn:List AnsV)(k h i j v t f m a:Int)(hp0:U64s st)(hp1:(st.length:Int) * 8<=140737488355000)(hp2:U6 a):MCall Tryz.prog 53 [.p 0,.u a] (O1 W xs ys f0 f1 f2 t0 t1 t2 sz lm ts ph scn fl os brk st b0 b1 lg lf pd wt dn k h i j v t f m) 1 1 (fun zx zm=>(((st.length:Int)<16)/\zx = .tup []/\zm=[(0,.cells (hpr W xs ys f0 f1 f2 t0 t1 t2 sz lm ts ph scn fl os brk (tcsr (st++[a]) b0 b1 lg lf pd wt dn [.i k,.i h,.i i,.i j,.u v,.i t,.i f,.u m,.i 0,.u 0,.f,.f])) 79)])\/((16<=(st.length:Int))/\zx = .tup []/\zm=[(0,.cells (bx W xs ys f0 f1 f2 t0 t1 t2 sz lm ts ph scn fl os brk st b0 b1 lg lf pd wt dn k h i j v t f m 4 0 false false) 79)])):=by
 refine mcall_of kr kr (xcall_of TT_ok Tryz.func53 rfl (by decide) nk ?_)
 refine xw_seq<|reg<|ka [] 6 0 [12,11,0] [0] [tr,tr] ?_
 by_cases h0:16<=(st.length:Int)
 ·
  refine pc (spush_1 st a om ZZ ZZ)<|ka [] 5 7 [5,4,0] [0] []<|en<|an<|xw_seq<|reg<|ka [] 2 0 [17,16,4,0] [0] []<|callx (f:=27) (args:=[.p 0,.i 4]) (d:=(some 18)) kr (xcall_of TT_ok Tryz.func27 rfl (by decide) nk ?_)
  refine kB [] 1 ⟨[(4,.f),(0,.p 0),(1,.i 4)],(O1 W xs ys f0 f1 f2 t0 t1 t2 sz lm ts ph scn fl os brk st b0 b1 lg lf pd wt dn k h i j v t f m),1⟩ []<|kb [] 6 [4,1] [0] [tr,tr]<|kb [(1,.f)] 3 [4] [0] [qF 4 0]<|xw_ret<|⟨.f,kr,?_⟩
  exact en<|an<|kC [] 6 ⟨[],[(0,.cells (bx W xs ys f0 f1 f2 t0 t1 t2 sz lm ts ph scn fl os brk st b0 b1 lg lf pd wt dn k h i j v t f m 4 0 false false) 79)],1⟩ [tr,tr]<|⟨.tup [],kr,_,.inr <| ⟨om,rfl,rfl⟩,rfl,le_cutm ⟨kr,trivial⟩⟩
 ·
  refine pc (spush_2 st a om ZZ om)<|ka [] 5 7 [5,4,0] [0] []<|en<|an<|xw_seq<|reg<|ka [] 2 0 [17,16,4,0] [0] []<|callx (f:=27) (args:=[.p 0,.i 0]) (d:=(some 18)) kr (xcall_of TT_ok Tryz.func27 rfl (by decide) nk ?_)
  refine kB [] 1 ⟨[(4,.f),(0,.p 0),(1,.i 0)],(O1 W xs ys f0 f1 f2 t0 t1 t2 sz lm ts ph scn fl os brk st b0 b1 lg lf pd wt dn k h i j v t f m),1⟩ []<|kb [] 6 [4,1] [0] [tr,tr]<|kb [(1,.t)] 3 [4] [0] [qT 0 0]<|xw_ret<|⟨.t,kr,?_⟩
  exact en<|an<|kC [] 6 ⟨[],[(0,.cells (hpr W xs ys f0 f1 f2 t0 t1 t2 sz lm ts ph scn fl os brk (tcsr (st++[a]) b0 b1 lg lf pd wt dn [.i k,.i h,.i i,.i j,.u v,.i t,.i f,.u m,.i 0,.u 0,.f,.f])) 79)],1⟩ [tr,tr]<|⟨.tup [],kr,_,.inl <| ⟨om,rfl,rfl⟩,rfl,le_cutm ⟨kr,trivial⟩⟩
set_option maxHeartbeats 8000000 in
set_option maxHeartbeats 8000000 in
theorem wfield (W:Int)(xs ys:List Int)(f0 f1 f2 t0 t1 t2 sz lm:Int)(ts:List Th)(ph scn fl:Int)(os:List Int)(brk:Int)(st:List Int)(b0 b1:Int)(lg:List Ent)(lf:List OpV)(pd:List Ent)(wt:Bool)(dn:List AnsV)(k h i j v t f m:Int)(pt:Bool)(hp0:16<=W/\W<=4096)(hp1:(xs.length:Int)=W)(hp2:(ys.length:Int)=W)(hp3:U64s xs)(hp4:U64s ys)(hp5:U64s st)(hp6:(st.length:Int) * 8<=140737488355000)(hp7:I6 h)(hp8:I6 i):MCall Tryz.prog 51 [.p 0,.bool pt] (O1 W xs ys f0 f1 f2 t0 t1 t2 sz lm ts ph scn fl os brk st b0 b1 lg lf pd wt dn k h i j v t f m) 1 1 (fun zx zm=>(∃ e1:Int,(fE W xs ys st h i pt=e1)/\(1<=e1/\e1<=100)/\zx = .tup [.u 0,.u 0,.f]/\zm=[(0,.cells (bx W xs ys f0 f1 f2 t0 t1 t2 sz lm ts ph scn fl os brk st b0 b1 lg lf pd wt dn k h i j v t f m e1 0 false false) 79)])\/(∃ v1:Int,(fE W xs ys st h i pt=0)/\(v1=(ldw xs ys ((ix st h) + 2 + i)))/\(0<=h/\h<(st.length:Int))/\(U6 v1)/\zx = .tup [.u (ix st h),.u v1,.t]/\zm=(O1 W xs ys f0 f1 f2 t0 t1 t2 sz lm ts ph scn fl os brk st b0 b1 lg lf pd wt dn k h i j v t f m))):=by
 refine mcall_of kr kr (xcall_of TT_ok Tryz.func51 rfl (by decide) nk ?_)
 have h0:U6 (ix st h):=U64s.ix ZZ _
 refine kb [] 3 [6,5,4,0,1] [0] []<|xw_scope_u 0 1 rfl<|xw_seq<|dregk hmix kr<|kd [] 10 0 [tr,tr,tr,tr] ?_
 by_cases h1:¬ (0<=h/\h<(st.length:Int))
 ·
  refine qc (sreal_1 st h om ZZ ZZ ZZ)<|kd [] 5 11 []<|qen<|an<|kB [] 1 ⟨[(8,.i 5),(7,.u 0),(6,.f),(5,.u 0),(4,.u 0),(0,.p 0),(1,.bool pt)],(O1 W xs ys f0 f1 f2 t0 t1 t2 sz lm ts ph scn fl os brk st b0 b1 lg lf pd wt dn k h i j v t f m),1⟩ []<|kb [] 1 [8,7,6,5,4,0,1] [0] []<|kb [] 1 [11,8,7,6,5,4,0,1] [1,0] []<|xw_seq<|kb [(1,.t)] 2 [27,11,8,7,6,5,4,0,1] [1,0] [nT 5 0]<|ct<|xw_goto<|an_goto<|juu<|uj_step<|xw_seq<|xw_skip<|an<|xw_seq<|reg<|kA [] 2 0 ⟨[(69,.i 5),(68,.p 0),(8,.i 5),(6,.f),(5,.u 0),(4,.u 0),(0,.p 0)],(O1 W xs ys f0 f1 f2 t0 t1 t2 sz lm ts ph scn fl os brk st b0 b1 lg lf pd wt dn k h i j v t f m),2⟩ []<|callx (f:=27) (args:=[.p 0,.i 5]) (d:=(some 70)) kr (xcall_of TT_ok Tryz.func27 rfl (by decide) nk ?_)
  refine kb [] 1 [4,0,1] [0] []<|kb [] 6 [4,1] [0] [tr,tr]<|kb [(1,.f)] 3 [4] [0] [qF 5 0]<|xw_ret<|⟨.f,kr,?_⟩
  show XOi _ _ _ _ _ _ _ ⟨[(70,.f),(69,.i 5),(68,.p 0),(8,.i 5),(6,.f),(5,.u 0),(4,.u 0),(0,.p 0)],[(0,.cells (bx W xs ys f0 f1 f2 t0 t1 t2 sz lm ts ph scn fl os brk st b0 b1 lg lf pd wt dn k h i j v t f m 5 0 false false) 79)],2⟩
  exact ka [] 3 3 [6,5,4,8,0] [0] []<|en<|an<|xw_ret<|juu_ret<|⟨.tup [.u 0,.u 0,.f],kr,_,.inl <| ⟨5,Ob2,om,rfl,rfl⟩,rfl,le_cutm ⟨kr,trivial⟩⟩
 ·
  by_cases h2:(ix st h)=0
  ·
   refine qc (sreal_2 st h om ZZ ZZ om ZZ)<|kd [] 5 11 []<|qen<|an<|kB [] 1 ⟨[(8,.i 6),(7,.u 0),(6,.f),(5,.u 0),(4,.u 0),(0,.p 0),(1,.bool pt)],(O1 W xs ys f0 f1 f2 t0 t1 t2 sz lm ts ph scn fl os brk st b0 b1 lg lf pd wt dn k h i j v t f m),1⟩ []<|kb [] 1 [8,7,6,5,4,0,1] [0] []<|kb [] 1 [11,8,7,6,5,4,0,1] [1,0] []<|xw_seq<|kb [(1,.t)] 2 [27,11,8,7,6,5,4,0,1] [1,0] [nT 6 0]<|ct<|xw_goto<|an_goto<|juu<|uj_step<|xw_seq<|xw_skip<|an<|xw_seq<|reg<|kA [] 2 0 ⟨[(69,.i 6),(68,.p 0),(8,.i 6),(6,.f),(5,.u 0),(4,.u 0),(0,.p 0)],(O1 W xs ys f0 f1 f2 t0 t1 t2 sz lm ts ph scn fl os brk st b0 b1 lg lf pd wt dn k h i j v t f m),2⟩ []<|callx (f:=27) (args:=[.p 0,.i 6]) (d:=(some 70)) kr (xcall_of TT_ok Tryz.func27 rfl (by decide) nk ?_)
   refine kb [] 1 [4,0,1] [0] []<|kb [] 6 [4,1] [0] [tr,tr]<|kb [(1,.f)] 3 [4] [0] [qF 6 0]<|xw_ret<|⟨.f,kr,?_⟩
   show XOi _ _ _ _ _ _ _ ⟨[(70,.f),(69,.i 6),(68,.p 0),(8,.i 6),(6,.f),(5,.u 0),(4,.u 0),(0,.p 0)],[(0,.cells (bx W xs ys f0 f1 f2 t0 t1 t2 sz lm ts ph scn fl os brk st b0 b1 lg lf pd wt dn k h i j v t f m 6 0 false false) 79)],2⟩
   exact ka [] 3 3 [6,5,4,8,0] [0] []<|en<|an<|xw_ret<|juu_ret<|⟨.tup [.u 0,.u 0,.f],kr,_,.inl <| ⟨6,Ob2,om,rfl,rfl⟩,rfl,le_cutm ⟨kr,trivial⟩⟩
  ·
   refine qc (sreal_3 st h om ZZ ZZ om om)<|kd [] 5 11 []<|qen<|an<|kB [] 1 ⟨[(8,.i 0),(7,.u (ix st h)),(6,.f),(5,.u 0),(4,.u 0),(0,.p 0),(1,.bool pt)],(O1 W xs ys f0 f1 f2 t0 t1 t2 sz lm ts ph scn fl os brk st b0 b1 lg lf pd wt dn k h i j v t f m),1⟩ []<|kb [] 1 [8,7,6,5,4,0,1] [0] []<|kb [] 1 [11,8,7,6,5,4,0,1] [1,0] []<|xw_seq<|kb [(1,.f)] 2 [27,11,8,7,6,5,4,0,1] [1,0] [nF 0 0]<|cf<|xw_skip<|an<|xw_seq<|reg<|kA [] 6 0 ⟨[(34,.u (ix st h)),(33,.agg (mm W xs ys)),(11,.p 1),(8,.i 0),(7,.u (ix st h)),(6,.f),(5,.u 0),(4,.u 0),(0,.p 0),(1,.bool pt)],[(1,.cells [.i 0,.i 0,.u 0] 58),(0,.cells (bx W xs ys f0 f1 f2 t0 t1 t2 sz lm ts ph scn fl os brk st b0 b1 lg lf pd wt dn k h i j v t f m 0 0 false false) 79)],2⟩ [tr,tr] ?_
   by_cases h3:(oErr W xs ys (ix st h))=0
   ·
    refine pc (oat_1 W xs ys (ix st h) ZZ ZZ ZZ ZZ ZZ ZZ ZZ) ?_
    obtain ⟨h4,h5,h6⟩:=oErr_ok W xs ys (ix st h) ZZ
    refine ka [] 5 7 [8,11,7,6,5,4,0,1] [1,0] [tr]<|en<|an<|xw_seq<|kb [(1,.f),(5,.bool ((ldw xs ys (ix st h) / 72057594037927936) == 255))] 7 [44,8,7,6,5,4,0,1] [0] [nF 0 0,tr,sf ((ldw xs ys (ix st h) / 72057594037927936) == 255),tr]<|xcE (ldw xs ys (ix st h) / 72057594037927936) 255 (fun h7=>?_) (fun h7=>?_)
    ·
     refine kb [] 1 [8,7,6,5,4,0,1] [0] []<|xw_goto<|an_goto<|juu<|uj_step<|xw_seq<|xw_skip<|an<|xw_seq<|reg<|kA [] 2 0 ⟨[(69,.i 10),(68,.p 0),(8,.i 10),(6,.f),(5,.u 0),(4,.u 0),(0,.p 0)],(O1 W xs ys f0 f1 f2 t0 t1 t2 sz lm ts ph scn fl os brk st b0 b1 lg lf pd wt dn k h i j v t f m),2⟩ []<|callx (f:=27) (args:=[.p 0,.i 10]) (d:=(some 70)) kr (xcall_of TT_ok Tryz.func27 rfl (by decide) nk ?_)
     refine kb [] 1 [4,0,1] [0] []<|kb [] 6 [4,1] [0] [tr,tr]<|kb [(1,.f)] 3 [4] [0] [qF 10 0]<|xw_ret<|⟨.f,kr,?_⟩
     show XOi _ _ _ _ _ _ _ ⟨[(70,.f),(69,.i 10),(68,.p 0),(8,.i 10),(6,.f),(5,.u 0),(4,.u 0),(0,.p 0)],[(0,.cells (bx W xs ys f0 f1 f2 t0 t1 t2 sz lm ts ph scn fl os brk st b0 b1 lg lf pd wt dn k h i j v t f m 10 0 false false) 79)],2⟩
     exact ka [] 3 3 [6,5,4,8,0] [0] []<|en<|an<|xw_ret<|juu_ret<|⟨.tup [.u 0,.u 0,.f],kr,_,.inl <| ⟨10,Ob2,om,rfl,rfl⟩,rfl,le_cutm ⟨kr,trivial⟩⟩
    ·
     refine xw_skip<|an<|xw_seq<|dregk hmix kr<|kd [] 11 0 [tr,tr,tr,tr] ?_
     by_cases h8:0<=i/\i<((ldw xs ys (ix st h) / 4294967296) % 16777216)
     ·
      refine qc (oget_1 W xs ys (ix st h) i ZZ ZZ ZZ ZZ ZZ ZZ ZZ ZZ ZZ ZZ) ?_
      have h9:U6 (ldw xs ys ((ix st h) + 2 + i)):=ldw_ok xs ys ((ix st h) + 2 + i) ZZ ZZ
      have h10:1<=((ix st h) + 2 + i) / 4294967296/\((ix st h) + 2 + i) / 4294967296<=2/\((ix st h) + 2 + i) % 4294967296<W:=by omega
      refine kd [] 7 12 []<|qen<|an<|xw_seq<|kB [(1,.f)] 2 ⟨[(62,.f),(8,.i 0),(10,.bool (isPtr (hL xs ys (ix st h)) (hM xs ys (ix st h)) i)),(9,.u (ldw xs ys ((ix st h) + 2 + i))),(7,.u (ix st h)),(6,.f),(5,.u 0),(4,.u 0),(0,.p 0),(1,.bool pt)],(O1 W xs ys f0 f1 f2 t0 t1 t2 sz lm ts ph scn fl os brk st b0 b1 lg lf pd wt dn k h i j v t f m),2⟩ [nF 0 0]<|cf<|xw_skip<|an<|xw_seq<|xw_seq<|reg<|ka [] 2 0 [64,63,8,9,7,6,5,4,0] [0] [] ?_
      by_cases h11:isPtr ((ldw xs ys (ix st h) / 4294967296) % 16777216) (ldw xs ys (ix st h) % 4294967296) i=true
      ·
       by_cases h12:pt=true
       ·
        exact ka [(2,.t)] 1 2 [65,8,9,7,6,5,4,0] [0] [⟨((isPtr ((ldw xs ys (ix st h) / 4294967296) % 16777216) (ldw xs ys (ix st h) % 4294967296) i) == pt)=true,(by rw [show (isPtr ((ldw xs ys (ix st h) / 4294967296) % 16777216) (ldw xs ys (ix st h) % 4294967296) i)=true from Ob1,show pt=true from Ob1]; rfl)⟩]<|en<|an<|ct<|kb [] 5 [6,5,4,8,0] [0] []<|xw_ret<|an_ret<|juu_ret<|⟨.tup [.u (ix st h),.u (ldw xs ys ((ix st h) + 2 + i)),.t],kr,_,.inr <| ⟨(ldw xs ys ((ix st h) + 2 + i)),(by exact fE_0),(by rfl),om,om,rfl,rfl⟩,rfl,le_cutm ⟨kr,trivial⟩⟩
       ·
        refine ka [(2,.f)] 1 2 [65,8,9,7,6,5,4,0] [0] [⟨((isPtr ((ldw xs ys (ix st h) / 4294967296) % 16777216) (ldw xs ys (ix st h) % 4294967296) i) == pt)=false,(by rw [show (isPtr ((ldw xs ys (ix st h) / 4294967296) % 16777216) (ldw xs ys (ix st h) % 4294967296) i)=true from Ob1,show pt=false from Ob1]; rfl)⟩]<|en<|an<|cf<|xw_skip<|an<|kb [] 1 [8,6,5,4,0] [0] []<|xw_seq<|xw_label<|an<|xw_seq<|reg<|kA [] 2 0 ⟨[(69,.i 8),(68,.p 0),(8,.i 8),(6,.f),(5,.u 0),(4,.u 0),(0,.p 0)],(O1 W xs ys f0 f1 f2 t0 t1 t2 sz lm ts ph scn fl os brk st b0 b1 lg lf pd wt dn k h i j v t f m),2⟩ []<|callx (f:=27) (args:=[.p 0,.i 8]) (d:=(some 70)) kr (xcall_of TT_ok Tryz.func27 rfl (by decide) nk ?_)
        refine kb [] 1 [4,0,1] [0] []<|kb [] 6 [4,1] [0] [tr,tr]<|kb [(1,.f)] 3 [4] [0] [qF 8 0]<|xw_ret<|⟨.f,kr,?_⟩
        show XOi _ _ _ _ _ _ _ ⟨[(70,.f),(69,.i 8),(68,.p 0),(8,.i 8),(6,.f),(5,.u 0),(4,.u 0),(0,.p 0)],[(0,.cells (bx W xs ys f0 f1 f2 t0 t1 t2 sz lm ts ph scn fl os brk st b0 b1 lg lf pd wt dn k h i j v t f m 8 0 false false) 79)],2⟩
        exact ka [] 3 3 [6,5,4,8,0] [0] []<|en<|an<|xw_ret<|juu_ret<|⟨.tup [.u 0,.u 0,.f],kr,_,.inl <| ⟨8,Ob2,om,rfl,rfl⟩,rfl,le_cutm ⟨kr,trivial⟩⟩
      ·
       by_cases h12:pt=true
       ·
        refine ka [(2,.f)] 1 2 [65,8,9,7,6,5,4,0] [0] [⟨((isPtr ((ldw xs ys (ix st h) / 4294967296) % 16777216) (ldw xs ys (ix st h) % 4294967296) i) == pt)=false,(by rw [show (isPtr ((ldw xs ys (ix st h) / 4294967296) % 16777216) (ldw xs ys (ix st h) % 4294967296) i)=false from Ob1,show pt=true from Ob1]; rfl)⟩]<|en<|an<|cf<|xw_skip<|an<|kb [] 1 [8,6,5,4,0] [0] []<|xw_seq<|xw_label<|an<|xw_seq<|reg<|kA [] 2 0 ⟨[(69,.i 8),(68,.p 0),(8,.i 8),(6,.f),(5,.u 0),(4,.u 0),(0,.p 0)],(O1 W xs ys f0 f1 f2 t0 t1 t2 sz lm ts ph scn fl os brk st b0 b1 lg lf pd wt dn k h i j v t f m),2⟩ []<|callx (f:=27) (args:=[.p 0,.i 8]) (d:=(some 70)) kr (xcall_of TT_ok Tryz.func27 rfl (by decide) nk ?_)
        refine kb [] 1 [4,0,1] [0] []<|kb [] 6 [4,1] [0] [tr,tr]<|kb [(1,.f)] 3 [4] [0] [qF 8 0]<|xw_ret<|⟨.f,kr,?_⟩
        show XOi _ _ _ _ _ _ _ ⟨[(70,.f),(69,.i 8),(68,.p 0),(8,.i 8),(6,.f),(5,.u 0),(4,.u 0),(0,.p 0)],[(0,.cells (bx W xs ys f0 f1 f2 t0 t1 t2 sz lm ts ph scn fl os brk st b0 b1 lg lf pd wt dn k h i j v t f m 8 0 false false) 79)],2⟩
        exact ka [] 3 3 [6,5,4,8,0] [0] []<|en<|an<|xw_ret<|juu_ret<|⟨.tup [.u 0,.u 0,.f],kr,_,.inl <| ⟨8,Ob2,om,rfl,rfl⟩,rfl,le_cutm ⟨kr,trivial⟩⟩
       ·
        exact ka [(2,.t)] 1 2 [65,8,9,7,6,5,4,0] [0] [⟨((isPtr ((ldw xs ys (ix st h) / 4294967296) % 16777216) (ldw xs ys (ix st h) % 4294967296) i) == pt)=true,(by rw [show (isPtr ((ldw xs ys (ix st h) / 4294967296) % 16777216) (ldw xs ys (ix st h) % 4294967296) i)=false from Ob1,show pt=false from Ob1]; rfl)⟩]<|en<|an<|ct<|kb [] 5 [6,5,4,8,0] [0] []<|xw_ret<|an_ret<|juu_ret<|⟨.tup [.u (ix st h),.u (ldw xs ys ((ix st h) + 2 + i)),.t],kr,_,.inr <| ⟨(ldw xs ys ((ix st h) + 2 + i)),(by exact fE_0),(by rfl),om,om,rfl,rfl⟩,rfl,le_cutm ⟨kr,trivial⟩⟩
     ·
      refine qc (oget_2 W xs ys (ix st h) i ZZ ZZ ZZ ZZ ZZ ZZ ZZ ZZ ZZ ZZ)<|kd [] 7 12 []<|qen<|an<|xw_seq<|kB [(1,.t)] 2 ⟨[(62,.t),(8,.i 7),(10,.f),(9,.u 0),(7,.u (ix st h)),(6,.f),(5,.u 0),(4,.u 0),(0,.p 0),(1,.bool pt)],(O1 W xs ys f0 f1 f2 t0 t1 t2 sz lm ts ph scn fl os brk st b0 b1 lg lf pd wt dn k h i j v t f m),2⟩ [nT 7 0]<|ct<|xw_goto<|an_goto<|juu<|uj_step<|xw_seq<|xw_skip<|an<|xw_seq<|reg<|ka [] 2 0 [69,68,8,6,5,4,0] [0] []<|callx (f:=27) (args:=[.p 0,.i 7]) (d:=(some 70)) kr (xcall_of TT_ok Tryz.func27 rfl (by decide) nk ?_)
      refine kb [] 1 [4,0,1] [0] []<|kb [] 6 [4,1] [0] [tr,tr]<|kB [(1,.f)] 3 ⟨[(4,.f)],[(0,.cells (bx W xs ys f0 f1 f2 t0 t1 t2 sz lm ts ph scn fl os brk st b0 b1 lg lf pd wt dn k h i j v t f m 7 0 false false) 79)],2⟩ [qF 7 0]<|xw_ret<|⟨.f,kr,?_⟩
      exact ka [] 3 3 [6,5,4,8,0] [0] []<|en<|an<|xw_ret<|juu_ret<|⟨.tup [.u 0,.u 0,.f],kr,_,.inl <| ⟨7,Ob2,om,rfl,rfl⟩,rfl,le_cutm ⟨kr,trivial⟩⟩
   ·
    refine pc (oat_2 W xs ys (ix st h) ZZ ZZ ZZ ZZ ZZ ZZ ZZ) ?_
    have h4:(oErr W xs ys (ix st h))=2\/(oErr W xs ys (ix st h))=10:=oErr_no W xs ys (ix st h) om
    refine ka [] 5 7 [8,11,7,6,5,4,0,1] [1,0] [tr]<|en<|an<|xw_seq<|kb [(1,.t)] 7 [44,8,7,6,5,4,0,1] [0] [nT (oErr W xs ys (ix st h)) 0,tr]<|ct<|kb [] 1 [8,7,6,5,4,0,1] [0] []<|xw_goto<|an_goto<|juu<|uj_step<|xw_seq<|xw_skip<|an<|xw_seq<|reg<|kA [] 2 0 ⟨[(69,.i 10),(68,.p 0),(8,.i 10),(6,.f),(5,.u 0),(4,.u 0),(0,.p 0)],(O1 W xs ys f0 f1 f2 t0 t1 t2 sz lm ts ph scn fl os brk st b0 b1 lg lf pd wt dn k h i j v t f m),2⟩ []<|callx (f:=27) (args:=[.p 0,.i 10]) (d:=(some 70)) kr (xcall_of TT_ok Tryz.func27 rfl (by decide) nk ?_)
    refine kb [] 1 [4,0,1] [0] []<|kb [] 6 [4,1] [0] [tr,tr]<|kb [(1,.f)] 3 [4] [0] [qF 10 0]<|xw_ret<|⟨.f,kr,?_⟩
    show XOi _ _ _ _ _ _ _ ⟨[(70,.f),(69,.i 10),(68,.p 0),(8,.i 10),(6,.f),(5,.u 0),(4,.u 0),(0,.p 0)],[(0,.cells (bx W xs ys f0 f1 f2 t0 t1 t2 sz lm ts ph scn fl os brk st b0 b1 lg lf pd wt dn k h i j v t f m 10 0 false false) 79)],2⟩
    exact ka [] 3 3 [6,5,4,8,0] [0] []<|en<|an<|xw_ret<|juu_ret<|⟨.tup [.u 0,.u 0,.f],kr,_,.inl <| ⟨10,Ob2,om,rfl,rfl⟩,rfl,le_cutm ⟨kr,trivial⟩⟩
end Go.Proofs.YtmmfpkkamgapkaaGreat.X
