/- Contracts of Go functions: what each returns,for every input that its premises name; no memory of the caller is touched. Printed by a program. -/
import Derived.Test.YtmmfpkkamgapkaaGreatXb5
import Derived.Test.YtmmfpkkamgapkaaGreatXg6
import Derived.Test.YtmmfpkkamgapkaaGreatXr2
import Derived.Test.YtmmfpkkamgapkaaGreatXq5
import Derived.Test.YtmmfpkkamgapkaaGreatXv2
namespace Go.Proofs.YtmmfpkkamgapkaaGreat.X
open Go Go.RowKit
set_option linter.unusedVariables false
set_option linter.unusedSimpArgs false
abbrev Z1(xs ys:List Int)(a:Int):=ptL ((ldw xs ys a / 4294967296) % 16777216) (ldw xs ys a % 4294967296) (Int.toNat ((ldw xs ys a / 4294967296) % 16777216))
abbrev Z2(W:Int)(xs ys:List Int)(n:Nat)(o:List Int)(a k1:Int):=vfd W xs ys n (o++[a]) (ptrs W xs ys a) k1
abbrev Z3(W:Int)(xs ys:List Int):Nat×Blk:=(0,.cells (mm W xs ys) 25)
abbrev Z4(W:Int)(xs ys:List Int)(a k1:Int):=m64 ((ptrs W xs ys a).take (Int.toNat k1))
abbrev Z5:=ptL 0 0 (Int.toNat 0)
abbrev Z6(xs ys:List Int)(a k1:Int):List SV:=[.u (ldw xs ys (a + 2 + (ix (Z1 xs ys a) k1)))]
abbrev Z7(l m i1:Int):=List.map (SV.int .i64) (ptL l m (Int.toNat i1))
theorem Zo{p:Prop}(h:p:=by first|omega|(simp only [Z1,Z2,Z3,Z4,Z5,Z6,Z7] at *;first|omega|assumption|(simp;done)|(simp;omega))):p:=h
theorem Zb6{p:Prop}(h:p:=by first | rfl | exact congrArg _ (ptrs_end om om) | exact congrArg _ (ptrs_0 om).symm):p:=h
theorem Zb5{p:Prop}(h:p:=by first | rfl | exact congrArg _ (vfd_next om om)):p:=h
theorem Zb4{p:Prop}(h:p:=by intro y hy; simp at hy; first | (subst hy; rfl) | (rcases hy with rfl | rfl <;> rfl)):p:=h
theorem Zb3{p:Prop}(h:p:=by symm; unfold rlB; first | (apply decide_eq_true; omega) | (apply decide_eq_false; omega) | (rw [Bool.eq_iff_iff]; simp; omega)):p:=h
theorem Zb2{p:Prop}(h:p:=by first | rfl | exact congrArg _ (vr_1 ZZ) | exact congrArg _ (vis_n3 ZZ) | exact congrArg _ (vr_3 (k:=k1) ZZ ZZ om)):p:=h
theorem Zb1{p:Prop}(h:p:=by first | rfl | omega | exact congrArg _ (ptL_yes om ZZ rfl) | exact congrArg _ (ptL_no om ZZ rfl) | exact congrArg _ (ptL_0 _ _).symm):p:=h
theorem rhptrs (t l m:Int)(hp0:I6 t)(hp1:0<=l/\l<=16777216)(hp2:U6 m):Pub Tryz.prog 71 [.agg [.i t,.i l,.u m]] (fun rv=>rv = .sl false 1 (List.map (SV.int .i64) (ptL l m (Int.toNat l)))):=by
 refine pub_of TT_ok Tryz.func71 rfl (by decide) nk kr<|kb [] 2 [2,1] [0] []<|kb [] 1 [3,2,1] [0] []<|xw_seq<|kb [] 1 [4,3,2,1] [0] []<|xw_block<|xw_nilrow 3 1 3 kr<|xw_loop (α:={q:Int // (0<=q)/\(q<=l)}) (fun p=>⟨[(3,.own 1),(4,.i p.1),(2,.nils),(1,.p 0)],[(1,.row 1 3 (List.map (SV.int .i64) (ptL l m (Int.toNat p.1)))),(0,.cells [.i t,.i l,.u m] 58)],2⟩) (fun p=>(l - p.1).toNat) ⟨0,⟨om,om⟩⟩ (le_s [] [(1,⟨((m64 []):List SV)=(List.map (SV.int .i64) (ptL l m (Int.toNat 0))),Zb1⟩)]) ?_
 rintro ⟨i1,h0,h1⟩
 show XW _ _ _ _ _ _ ⟨[(3,.own 1),(4,.int .i64 i1),(2,.nils),(1,.loc 0 0)],[(1,.row 1 3 (Z7 l m i1)),(0,.cells [.int .i64 t,.int .i64 l,.int .u64 m] 58)],2⟩
 have h2:((ptL l m (Int.toNat i1)).length:Int)<=i1:=ptL_le om
 refine xw_seq<|kb [(3,.bool (decide (i1<l)))] 4 [9,3,4,2,1] [1,0] [tr,sf (decide (i1<l))]<|xcD (i1<l) (fun h3=>?_) (fun h3=>?_)
 ·
  refine xw_skip<|an<|xw_seq<|xw_block<|xw_seq<|reg<|ka [] 2 0 [13,12,3,4,2,1] [1,0] [tr]<|pc (rhpointer t l m i1 ZZ om ZZ)<|ka [] 1 3 [5,3,4,2,1] [1,0] []<|en<|an<|kB [] 1 ⟨[(15,.bool (isPtr l m i1)),(3,.own 1),(4,.i i1),(2,.nils),(1,.p 0)],[(1,.row 1 3 (Z7 l m i1)),(0,.cells [.i t,.i l,.u m] 58)],2⟩ []<|xw_cond (b:=(isPtr l m i1)) kr (fun h4=>?_) (fun h4=>?_)
  ·
   exact reg<|ka [(2,.t)] 4 0 [19,3,4,2,1] [2,0] [⟨(∀ y∈([.i i1] : List SV),ElemOk y)/\(false=true->1<=([.i i1] : List SV).length/\∀ x∈((Z7 l m i1):List SV),ElemOk x)/\(((Z7 l m i1):List SV).length + ([.i i1] : List SV).length) * 8<=140737488355328/\((Z7 l m i1):List SV).length + ([.i i1] : List SV).length<=4611686018427387904,⟨Zb4,(fun h=>by cases h),lw,lw⟩⟩]<|setr 2 (z:=1) (E:=3) (L:=(((Z7 l m i1))++([.i i1]))) (L':=(List.map (SV.int .i64) ((ptL l m (Int.toNat i1))++[i1]))) kr app_one<|ka [] 1 4 [3,4,2,1] [2,0] []<|en<|ib<|an<|kc [(1,.i (i1 + 1))] 3 [4,3,2,1] [2,0] [w6 (i1 + 1)]<|ag ⟨(i1 + 1),⟨om,om⟩⟩ (le_s [(1,2)] [(1,⟨((List.map (SV.int .i64) ((ptL l m (Int.toNat i1))++[i1])):List SV)=(List.map (SV.int .i64) (ptL l m (Int.toNat (i1 + 1)))),Zb1⟩)]) dm
  ·
   exact xw_skip<|ib<|an<|kc [(1,.i (i1 + 1))] 3 [4,3,2,1] [1,0] [w6 (i1 + 1)]<|ag ⟨(i1 + 1),⟨om,om⟩⟩ (le_s [] [(1,⟨((Z7 l m i1):List SV)=(List.map (SV.int .i64) (ptL l m (Int.toNat (i1 + 1)))),(by (try simp only [Z1,Z2,Z3,Z4,Z5,Z6,Z7] at *);first | rfl | omega | exact congrArg _ (ptL_yes Zo ZZ rfl) | exact congrArg _ (ptL_no Zo ZZ rfl) | exact congrArg _ (ptL_0 _ _).symm)⟩)]) dm
 ·
  exact xw_exit<|an_exit<|ag_exit<|ib_same<|an<|kb [] 2 [2] [1] []<|xw_ret<|bk_ret (.own 1) (.sl false 1 (Z7 l m i1)) (.sl false 1 (List.map (SV.int .i64) (ptL l m (Int.toNat l)))) kr kr (wk_s [(1,⟨(Z7 l m i1)=(List.map (SV.int .i64) (ptL l m (Int.toNat l))),(by (try simp only [Z1,Z2,Z3,Z4,Z5,Z6,Z7] at *);first | rfl | exact congrArg _ (ptL_eq Zo))⟩)]) rfl
theorem rhas (l:List Int)(a:Int)(hp0:U64s l)(hp1:U6 a)(hp2:(l.length:Int) * 8<=140737488355000):Pub Tryz.prog 47 [.sl false 1 (m64 l),.u a] (fun rv=>rv = .bool (hasB l a)):=by
 refine pub_of TT_ok Tryz.func47 rfl (by decide) nk kr<|kb [] 1 [4,0,1] [] []<|xw_seq<|kb [] 1 [5,4,0,1] [] []<|xw_block<|xw_loop (α:={q:Int // (0<=q)/\(q<=(l.length:Int))/\(hasB (l.take (Int.toNat q)) a=false)}) (fun p=>⟨[(5,.i p.1),(4,.f),(0,.sl false 1 (m64 l)),(1,.u a)],[],0⟩) (fun p=>((l.length:Int) - p.1).toNat) ⟨0,⟨om,om,(by first | exact hasB_0 _ | exact hasB_next om om ZZ om)⟩⟩ (le_s []) ?_
 rintro ⟨i1,h0,h1,h2⟩
 show XW _ _ _ _ _ _ ⟨[(5,.int .i64 i1),(4,.bool false),(0,.sl false 1 (m64 l)),(1,.int .u64 a)],[],0⟩
 refine xw_seq<|kb [(2,.i ((l).length:Int)),(3,.bool (decide (i1<((l).length:Int))))] 4 [9,5,4,0,1] [] [l6 (SV.int .u64) l,sf (decide (i1<((l).length:Int)))]<|xcD (i1<((l).length:Int)) (fun h3=>?_) (fun h3=>?_)
 ·
  refine xw_skip<|an<|xw_seq<|xw_block<|xw_seq<|reg<|ka [(2,.u (ix l i1))] 3 0 [14,5,4,0,1] [] [x6 .u64 l i1] ?_
  have h4:U6 (ix l i1):=U64s.ix rq _
  refine ka [(5,.bool ((ix l i1) == a))] 3 3 [17,5,4,0,1] [] [tr,sf ((ix l i1) == a)]<|en<|an<|xcE (ix l i1) a (fun h5=>?_) (fun h5=>?_)
  ·
   exact kB [] 1 ⟨[(4,.t),(5,.i i1),(0,.sl false 1 (m64 l)),(1,.u a)],[],0⟩ []<|xw_ret<|ib_ret<|an_ret<|ag_ret<|ib_ret<|an_ret<|br (.t) (.bool (hasB l a)) (wk_s [(0,⟨true=(hasB l a),(by first | rfl | exact (hasB_at om om om).symm | exact (hasB_end ZZ om).symm)⟩)]) rfl
  ·
   exact xw_skip<|ib<|an<|kC [(1,.i (i1 + 1))] 3 ⟨[(5,.i (i1 + 1)),(4,.f),(0,.sl false 1 (m64 l)),(1,.u a)],[],0⟩ [w6 (i1 + 1)]<|ag ⟨(i1 + 1),⟨om,om,(by first | exact hasB_0 _ | exact hasB_next om om ZZ om)⟩⟩ (le_s []) dm
 ·
  exact xw_exit<|an_exit<|ag_exit<|ib_same<|an<|kb [] 1 [4] [] []<|xw_ret<|br (.f) (.bool (hasB l a)) (wk_s [(0,⟨false=(hasB l a),(by first | rfl | exact (hasB_at om om om).symm | exact (hasB_end ZZ om).symm)⟩)]) rfl
theorem rreal (W:Int)(xs ys:List Int)(a:Int)(hp0:16<=W/\W<=4096)(hp1:(xs.length:Int)=W)(hp2:(ys.length:Int)=W)(hp3:U64s xs)(hp4:U64s ys)(hp5:U6 a):Pub Tryz.prog 73 [.agg (mm W xs ys),.u a] (fun rv=>rv = .bool (rlB W xs ys a)):=by
 refine pub_of TT_ok Tryz.func73 rfl (by decide) nk kr<|kb [] 2 [4,2,1] [0] []<|xw_seq<|reg<|ka [] 2 0 [9,8,4] [] [tr] ?_
 by_cases h0:(oErr W xs ys a)=0
 ·
  refine pc (roat_1 W xs ys a ZZ ZZ ZZ ZZ ZZ ZZ ZZ) ?_
  obtain ⟨h1,h2,h3⟩:=oErr_ok W xs ys a ZZ
  refine ka [] 6 3 [6,5,4] [1] [tr]<|en<|an<|kB [(1,.t),(5,.bool ((ldw xs ys a / 72057594037927936) != 255))] 8 ⟨[(4,.bool ((hT xs ys a) != 255))],[],2⟩ [qT 0 0,tr,sf ((ldw xs ys a / 72057594037927936) != 255),tr]<|xw_ret ?_
  by_cases h4:(ldw xs ys a / 72057594037927936)≠255
  ·
   exact br (.bool ((ldw xs ys a / 72057594037927936) != 255)) (.bool (rlB W xs ys a)) (wk_s [(0,⟨((ldw xs ys a / 72057594037927936) != 255)=(rlB W xs ys a),Zb3⟩)]) rfl
  ·
   exact br (.bool ((ldw xs ys a / 72057594037927936) != 255)) (.bool (rlB W xs ys a)) (wk_s [(0,⟨((ldw xs ys a / 72057594037927936) != 255)=(rlB W xs ys a),Zb3⟩)]) rfl
 ·
  refine pc (roat_2 W xs ys a ZZ ZZ ZZ ZZ ZZ ZZ ZZ) ?_
  have h1:(oErr W xs ys a)=2\/(oErr W xs ys a)=10:=oErr_no W xs ys a om
  exact ka [] 6 3 [6,5,4] [1] [tr]<|en<|an<|kB [(1,.f)] 8 ⟨[(4,.f)],[],2⟩ [qF (oErr W xs ys a) 0,tr]<|xw_ret<|br (.f) (.bool (rlB W xs ys a)) (wk_s [(0,⟨false=(rlB W xs ys a),Zb3⟩)]) rfl
set_option maxHeartbeats 8000000 in
theorem rptrs (W:Int)(xs ys:List Int)(a:Int)(hp0:16<=W/\W<=4096)(hp1:(xs.length:Int)=W)(hp2:(ys.length:Int)=W)(hp3:U64s xs)(hp4:U64s ys)(hp5:U6 a):Pub Tryz.prog 74 [.agg (mm W xs ys),.u a] (fun rv=>rv = .sl false 1 (m64 (ptrs W xs ys a))):=by
 refine pub_of TT_ok Tryz.func74 rfl (by decide) nk kr<|kb [] 2 [4,2,1] [0] []<|xw_seq<|reg<|ka [] 2 0 [15,14,4,2,1] [0] [tr] ?_
 by_cases h0:(oErr W xs ys a)=0
 ·
  refine pc (roat_1 W xs ys a ZZ ZZ ZZ ZZ ZZ ZZ ZZ) ?_
  obtain ⟨h1,h2,h3⟩:=oErr_ok W xs ys a ZZ
  refine ka [] 6 3 [5,4,2,1] [1,0] [tr]<|en<|an<|xw_seq<|reg<|kA [] 1 0 ⟨[(19,.agg [.i (hT xs ys a),.i (hL xs ys a),.u (hM xs ys a)]),(4,.nils),(2,.p 0),(1,.u a)],[(Z3 W xs ys)],2⟩ [tr]<|pc (rhptrs (ldw xs ys a / 72057594037927936) ((ldw xs ys a / 4294967296) % 16777216) (ldw xs ys a % 4294967296) om om om) ?_
  have h4:((Z1 xs ys a).length:Int)<=((ldw xs ys a / 4294967296) % 16777216):=ptL_le om
  have h5:I64s (Z1 xs ys a):=ptL_i64 _ _ om
  refine ka [] 1 2 [7,4,2,1] [0] []<|en<|an<|kb [] 1 [8,7,4,2,1] [0] []<|xw_seq<|kb [] 1 [9,8,7,4,2,1] [0] []<|xw_block<|xw_nilrow 8 1 52 kr<|xw_loop (α:={q:Int // (0<=q)/\(q<=((Z1 xs ys a).length:Int))}) (fun p=>⟨[(8,.own 2),(9,.i p.1),(7,.sl false 1 (List.map (SV.int .i64) (ptL (hL xs ys a) (hM xs ys a) (Int.toNat (hL xs ys a))))),(4,.nils),(2,.p 0),(1,.u a)],[(2,.row 1 52 (m64 ((ptrs W xs ys a).take (Int.toNat p.1)))),(Z3 W xs ys)],3⟩) (fun p=>(((Z1 xs ys a).length:Int) - p.1).toNat) ⟨0,⟨om,om⟩⟩ (le_s [] [(4,⟨((m64 []):List SV)=(m64 ((ptrs W xs ys a).take (Int.toNat 0))),(by first | rfl | exact congrArg _ (ptrs_next om om om) | (simp; done))⟩)]) ?_
  rintro ⟨k1,h6,h7⟩
  show XW _ _ _ _ _ _ ⟨[(8,.own 2),(9,.int .i64 k1),(7,.sl false 1 (List.map (SV.int .i64) (Z1 xs ys a))),(4,.nils),(2,.loc 0 0),(1,.int .u64 a)],[(2,.row 1 52 (Z4 W xs ys a k1)),(Z3 W xs ys)],3⟩
  have h8:k1=((Z1 xs ys a).length:Int)\/(k1<((Z1 xs ys a).length:Int)/\0<=(ix (Z1 xs ys a) k1)/\(ix (Z1 xs ys a) k1)<((ldw xs ys a / 4294967296) % 16777216)/\(ldw xs ys a / 72057594037927936)≠255):=ptl_ix (t:=(ldw xs ys a / 72057594037927936)) om om om
  have h9:(((ptrs W xs ys a).take (Int.toNat k1)).length:Int)<=64:=ptrs_tk
  have h10:U64s ((ptrs W xs ys a).take (Int.toNat k1)):=(ptrs_u64 ‹U64s xs› ‹U64s ys›).take _
  refine xw_seq<|kb [(2,.i (((Z1 xs ys a)).length:Int)),(3,.bool (decide (k1<(((Z1 xs ys a)).length:Int))))] 4 [24,8,9,7,4,2,1] [2,0] [l6 (SV.int .i64) (Z1 xs ys a),sf (decide (k1<(((Z1 xs ys a)).length:Int)))]<|xcD (k1<(((Z1 xs ys a)).length:Int)) (fun h11=>?_) (fun h11=>?_)
  ·
   refine xw_skip<|an<|xw_seq<|xw_block<|xw_seq<|dregk hmix kr<|kd [(4,.i (ix (Z1 xs ys a) k1))] 5 0 [tr,x6 .i64 (Z1 xs ys a) k1] ?_
   have h12:I6 (ix (Z1 xs ys a) k1):=I64s.ix rq _
   refine kd [] 1 5 [tr]<|qc (roget_1 W xs ys a (ix (Z1 xs ys a) k1) ZZ ZZ ZZ ZZ ZZ ZZ ZZ ZZ om om) ?_
   have h13:U6 (ldw xs ys (a + 2 + (ix (Z1 xs ys a) k1))):=ldw_ok xs ys (a + 2 + (ix (Z1 xs ys a) k1)) ZZ ZZ
   have h14:1<=(a + 2 + (ix (Z1 xs ys a) k1)) / 4294967296/\(a + 2 + (ix (Z1 xs ys a) k1)) / 4294967296<=2/\(a + 2 + (ix (Z1 xs ys a) k1)) % 4294967296<W:=by omega
   exact kd [] 7 7 []<|qen<|an<|reg<|kA [(2,.t)] 4 0 ⟨[(41,.own 3),(8,.own 2),(9,.i k1),(7,.sl false 1 (List.map (SV.int .i64) (ptL (hL xs ys a) (hM xs ys a) (Int.toNat (hL xs ys a))))),(4,.nils),(2,.p 0),(1,.u a)],[(3,.row 1 52 (((Z4 W xs ys a k1))++([.u (ldw xs ys (a + 2 + (ix (ptL (hL xs ys a) (hM xs ys a) (Int.toNat (hL xs ys a))) k1)))]))),(Z3 W xs ys)],4⟩ [⟨(∀ y∈((Z6 xs ys a k1):List SV),ElemOk y)/\(false=true->1<=((Z6 xs ys a k1):List SV).length/\∀ x∈((Z4 W xs ys a k1):List SV),ElemOk x)/\(((Z4 W xs ys a k1):List SV).length + ((Z6 xs ys a k1):List SV).length) * 8<=140737488355328/\((Z4 W xs ys a k1):List SV).length + ((Z6 xs ys a k1):List SV).length<=4611686018427387904,⟨Zb4,(fun h=>by cases h),lw,lw⟩⟩]<|setr 3 (z:=1) (E:=52) (L:=(((Z4 W xs ys a k1))++((Z6 xs ys a k1)))) (L':=(m64 (((ptrs W xs ys a).take (Int.toNat k1))++[(ldw xs ys (a + 2 + (ix (Z1 xs ys a) k1)))]))) kr app_one<|ka [] 1 4 [8,9,7,4,2,1] [3,0] []<|en<|ib<|an<|kc [(1,.i (k1 + 1))] 3 [9,8,7,4,2,1] [3,0] [w6 (k1 + 1)]<|ag ⟨(k1 + 1),⟨om,om⟩⟩ (le_s [(2,3)] [(4,⟨((m64 (((ptrs W xs ys a).take (Int.toNat k1))++[(ldw xs ys (a + 2 + (ix (Z1 xs ys a) k1)))])):List SV)=(m64 ((ptrs W xs ys a).take (Int.toNat (k1 + 1)))),(by first | rfl | exact congrArg _ (ptrs_next om om om) | (simp; done))⟩)]) dm
  ·
   exact xw_exit<|an_exit<|ag_exit<|ib_same<|an<|kb [] 2 [4] [2] []<|xw_ret<|bk_ret (.own 2) (.sl false 1 (Z4 W xs ys a k1)) (.sl false 1 (m64 (ptrs W xs ys a))) kr kr (wk_s [(1,⟨(Z4 W xs ys a k1)=(m64 (ptrs W xs ys a)),(by first | rfl | exact congrArg _ (ptrs_end Zo Zo) | exact congrArg _ (ptrs_0 Zo).symm)⟩)]) rfl
 ·
  refine pc (roat_2 W xs ys a ZZ ZZ ZZ ZZ ZZ ZZ ZZ) ?_
  have h1:(oErr W xs ys a)=2\/(oErr W xs ys a)=10:=oErr_no W xs ys a om
  refine ka [] 6 3 [5,4,2,1] [1,0] [tr]<|en<|an<|xw_seq<|reg<|kA [] 1 0 ⟨[(19,.agg [.i 0,.i 0,.u 0]),(4,.nils),(2,.p 0),(1,.u a)],[(Z3 W xs ys)],2⟩ [tr]<|pc (rhptrs 0 0 0 om om om) ?_
  have h2:(Z5.length:Int)<=0:=ptL_le om
  have h3:I64s Z5:=ptL_i64 _ _ om
  exact ka [] 1 2 [7,4,2,1] [0] []<|en<|an<|kb [] 1 [8,7,4,2,1] [0] []<|xw_seq<|kb [] 1 [9,8,7,4,2,1] [0] []<|xw_block<|xw_nilrow 8 1 52 kr<|xw_unroll 1<|ul_step<|xw_seq<|kB [(2,.i ((Z5).length:Int)),(3,.f)] 4 ⟨[(24,.f),(8,.own 2),(9,.i 0),(7,.sl false 1 (List.map (SV.int .i64) Z5)),(4,.nils),(2,.p 0),(1,.u a)],[(2,.row 1 52 (m64 [])),(Z3 W xs ys)],3⟩ [l6 (SV.int .i64) Z5,dF (0<((Z5).length:Int))]<|cf<|xw_exit<|an_exit<|agu_exit<|ib_same<|an<|kb [] 2 [4] [2] []<|xw_ret<|bk_ret (.own 2) (.sl false 1 (m64 [])) (.sl false 1 (m64 (ptrs W xs ys a))) kr kr (wk_s [(1,⟨(m64 [])=(m64 (ptrs W xs ys a)),Zb6⟩)]) rfl
set_option maxHeartbeats 8000000 in
theorem rvis (W:Int)(xs ys:List Int)(hp0:16<=W/\W<=4096)(hp1:(xs.length:Int)=W)(hp2:(ys.length:Int)=W)(hp3:U64s xs)(hp4:U64s ys):∀ (n:Nat) (o:List Int) (a:Int),(Vk W xs ys o)->(U6 a)->((fre W xs ys o)<(n:Int))->Pub Tryz.prog 42 [.agg (mm W xs ys),.u a,.sl false 1 (m64 o)] (fun rv=>rv = .sl false 1 (m64 (vis W xs ys n o a))):=by
 intro n
 induction n with
 | zero=>intro o a hq0 hq1 hq2; exfalso; have:=fre_0 (W:=W) (xs:=xs) (ys:=ys) (o:=o); omega
 | succ n ih =>
  intro o a hq0 hq1 hq2
  replace hq2:(fre W xs ys o)<(n:Int) + 1:=by omega
  have h0:(o.length:Int)<=8192:=vk_len ZZ
  have h1:U64s o:=‹Vk W xs ys o›.1
  refine pub_of TT_ok Tryz.func42 rfl (by decide) nk kr<|kb [] 2 [6,3,1,2] [0] []<|xw_seq<|reg<|ka [] 2 0 [12,11,6,3,1,2] [0] [tr]<|pc (rreal W xs ys a ZZ ZZ ZZ ZZ ZZ ZZ)<|ka [] 1 3 [7,6,3,1,2] [0] []<|en<|an<|xw_seq<|reg<|kA [] 2 0 ⟨[(15,.u a),(14,.sl false 1 (m64 o)),(7,.bool (rlB W xs ys a)),(6,.nils),(3,.p 0),(1,.u a),(2,.sl false 1 (m64 o))],[(Z3 W xs ys)],1⟩ []<|pc (rhas o a ZZ ZZ om)<|ka [] 1 3 [8,7,6,3,1,2] [0] []<|en<|an<|xw_seq<|xw_seq<|reg<|ka [] 3 0 [19,8,6,3,1,2] [0] []<|splitr 19 (x:=(!(rlB W xs ys a))) kr (fun h2=>?_) (fun h2=>?_)
  ·
   replace h2:rlB W xs ys a=false:=by first | (simp; done) | simpa using h2 | (simp at h2; omega)
   exact ka [] 2 3 [21,6,3,1,2] [0] [tr]<|en<|an<|ct<|kB [] 2 ⟨[(6,.sl false 1 (m64 o)),(3,.p 0),(1,.u a),(2,.sl false 1 (m64 o))],[(Z3 W xs ys)],1⟩ []<|xw_ret<|an_ret<|br (.sl false 1 (m64 o)) (.sl false 1 (m64 (vis W xs ys (n + 1) o a))) (wk_s [(1,⟨(m64 o)=(m64 (vis W xs ys (n + 1) o a)),Zb2⟩)]) rfl
  ·
   replace h2:rlB W xs ys a=true:=by first | (simp; done) | simpa using h2
   refine ka [] 2 3 [21,6,3,1,2] [0] [tr]<|en<|an<|xw_cond (b:=(hasB o a)) kr (fun h3=>?_) (fun h3=>?_)
   ·
    exact kB [] 2 ⟨[(6,.sl false 1 (m64 o)),(3,.p 0),(1,.u a),(2,.sl false 1 (m64 o))],[(Z3 W xs ys)],1⟩ []<|xw_ret<|an_ret<|br (.sl false 1 (m64 o)) (.sl false 1 (m64 (vis W xs ys (n + 1) o a))) (wk_s [(1,⟨(m64 o)=(m64 (vis W xs ys (n + 1) o a)),Zb2⟩)]) rfl
   ·
    refine xw_skip<|an<|xw_seq<|reg<|kA [] 3 0 ⟨[(25,.own 2),(6,.nils),(3,.p 0),(1,.u a),(2,.sl false 1 (m64 o))],[(2,.row 1 52 (([])++((m64 o)))),(Z3 W xs ys)],3⟩ [⟨(∀ y∈((m64 o):List SV),ElemOk y)/\(false=true->1<=((m64 o):List SV).length/\∀ x∈([] : List SV),ElemOk x)/\(([] : List SV).length + ((m64 o):List SV).length) * 8<=140737488355328/\([] : List SV).length + ((m64 o):List SV).length<=4611686018427387904,⟨elem_map,(fun h=>by cases h),lw,lw⟩⟩]<|setr 2 (z:=1) (E:=52) (L:=(([])++((m64 o)))) (L':=(m64 o)) kr nil_app<|ka [(4,.t)] 3 3 [28,6,3,1,2] [3,0] [⟨(∀ y∈([.u a] : List SV),ElemOk y)/\(false=true->1<=([.u a] : List SV).length/\∀ x∈((m64 o):List SV),ElemOk x)/\(((m64 o):List SV).length + ([.u a] : List SV).length) * 8<=140737488355328/\((m64 o):List SV).length + ([.u a] : List SV).length<=4611686018427387904,⟨Zb4,(fun h=>by cases h),lw,lw⟩⟩]<|setr 3 (z:=1) (E:=52) (L:=(((m64 o))++([.u a]))) (L':=(m64 (o++[a]))) kr app_one<|ka [] 1 6 [2,6,3,1] [3,0] []<|xoi_share 2 3 (z:=1) (E:=52) (xs:=(m64 (o++[a]))) kr kr<|en<|an<|xw_seq<|reg<|ka [] 2 0 [30,29,2,6,3] [0] [tr]<|pc (rptrs W xs ys a ZZ ZZ ZZ ZZ ZZ ZZ) ?_
    have h4:U64s (ptrs W xs ys a):=ptrs_u64 ZZ ZZ
    have h5:((ptrs W xs ys a).length:Int)<=64:=ptrs_le
    refine kA [] 1 3 ⟨[(9,.sl false 1 (m64 (ptrs W xs ys a))),(2,.sl false 1 (m64 (o++[a]))),(6,.nils),(3,.p 0)],[(Z3 W xs ys)],4⟩ []<|en<|an<|xw_seq<|kb [] 1 [10,9,2,6,3] [0] []<|xw_block<|xw_loop (α:={q:Int // (0<=q)/\(q<=((ptrs W xs ys a).length:Int))}) (fun p=>⟨[(10,.i p.1),(9,.sl false 1 (m64 (ptrs W xs ys a))),(2,.sl false 1 (m64 (vfd W xs ys n (o++[a]) (ptrs W xs ys a) p.1))),(6,.nils),(3,.p 0)],[(Z3 W xs ys)],4⟩) (fun p=>(((ptrs W xs ys a).length:Int) - p.1).toNat) ⟨0,⟨om,om⟩⟩ (le_s [] [(4,⟨((m64 (o++[a])):List SV)=(m64 (vfd W xs ys n (o++[a]) (ptrs W xs ys a) 0)),Zb5⟩)]) ?_
    rintro ⟨k1,h6,h7⟩
    show XW _ _ _ _ _ _ ⟨[(10,.int .i64 k1),(9,.sl false 1 (m64 (ptrs W xs ys a))),(2,.sl false 1 (m64 (Z2 W xs ys n o a k1))),(6,.nils),(3,.loc 0 0)],[(Z3 W xs ys)],4⟩
    have h8:Vk W xs ys (Z2 W xs ys n o a k1):=vfd_vkr ‹Vk W xs ys o› ZZ ZZ
    have h9:(fre W xs ys (Z2 W xs ys n o a k1))<(fre W xs ys o):=vfd_frer ‹Vk W xs ys o› ZZ ZZ
    have h10:U64s (Z2 W xs ys n o a k1):=(vfd_vkr ‹Vk W xs ys o› ZZ ZZ).1
    have h11:((Z2 W xs ys n o a k1).length:Int)<=8192:=vk_len ZZ
    refine xw_seq<|kb [(2,.i (((ptrs W xs ys a)).length:Int)),(3,.bool (decide (k1<(((ptrs W xs ys a)).length:Int))))] 4 [35,10,9,2,6,3] [0] [l6 (SV.int .u64) (ptrs W xs ys a),sf (decide (k1<(((ptrs W xs ys a)).length:Int)))]<|xcD (k1<(((ptrs W xs ys a)).length:Int)) (fun h12=>?_) (fun h12=>?_)
    ·
     refine xw_skip<|an<|xw_seq<|xw_block<|dregk hmix kr<|kd [(3,.u (ix (ptrs W xs ys a) k1))] 4 0 [tr,x6 .u64 (ptrs W xs ys a) k1] ?_
     have h13:U6 (ix (ptrs W xs ys a) k1):=U64s.ix rq _
     exact kd [] 2 4 [tr]<|pqcall (args:=[.agg (mm W xs ys),.u (ix (ptrs W xs ys a) k1),.sl false 1 (m64 (Z2 W xs ys n o a k1))]) (args':=[.agg (mm W xs ys),.u (ix (ptrs W xs ys a) k1),.sl false 1 (m64 (Z2 W xs ys n o a k1))]) (d:=(some 44)) (sv:=.sl false 1 (m64 (vis W xs ys n (Z2 W xs ys n o a k1) (ix (ptrs W xs ys a) k1)))) kr (ih (Z2 W xs ys n o a k1) (ix (ptrs W xs ys a) k1) ZZ ZZ om) [sm (W:Int),fi,sm ((m64 xs):List SV),fi,sm ((m64 ys):List SV),sm ((ix (ptrs W xs ys a) k1):Int),fi,sm ((m64 (Z2 W xs ys n o a k1)):List SV)] kr ⟨rfl,id,rfl,id,rfl,rfl,id,rfl,trivial⟩ kr<|kd [] 1 7 []<|qen<|ib<|an<|kC [(1,.i (k1 + 1))] 3 ⟨[(10,.i (k1 + 1)),(2,.sl false 1 (m64 (vis W xs ys n (Z2 W xs ys n o a k1) (ix (ptrs W xs ys a) k1)))),(9,.sl false 1 (m64 (ptrs W xs ys a))),(6,.nils),(3,.p 0)],[(Z3 W xs ys)],4⟩ [w6 (k1 + 1)]<|ag ⟨(k1 + 1),⟨om,om⟩⟩ (le_s [] [(4,⟨((m64 (vis W xs ys n (Z2 W xs ys n o a k1) (ix (ptrs W xs ys a) k1))):List SV)=(m64 (vfd W xs ys n (o++[a]) (ptrs W xs ys a) (k1 + 1))),Zb5⟩)]) dm
    ·
     exact xw_exit<|an_exit<|ag_exit<|ib_same<|an<|kb [] 2 [6] [] []<|xw_ret<|br (.sl false 1 (m64 (Z2 W xs ys n o a k1))) (.sl false 1 (m64 (vis W xs ys (n + 1) o a))) (wk_s [(1,⟨(m64 (Z2 W xs ys n o a k1))=(m64 (vis W xs ys (n + 1) o a)),Zb2⟩)]) rfl
theorem rvisit (W:Int)(xs ys o:List Int)(a:Int)(hp0:16<=W/\W<=4096)(hp1:(xs.length:Int)=W)(hp2:(ys.length:Int)=W)(hp3:U64s xs)(hp4:U64s ys)(hq0:Vk W xs ys o)(hq1:U6 a):Pub Tryz.prog 42 [.agg (mm W xs ys),.u a,.sl false 1 (m64 o)] (fun rv=>rv = .sl false 1 (m64 (vis W xs ys fuelN o a))):=rvis W xs ys hp0 hp1 hp2 hp3 hp4 fuelN o a hq0 hq1 (fre_fuel om)
theorem rreach (W:Int)(xs ys l:List Int)(hp0:16<=W/\W<=4096)(hp1:(xs.length:Int)=W)(hp2:(ys.length:Int)=W)(hp3:U64s xs)(hp4:U64s ys)(hp5:U64s l)(hp6:(l.length:Int) * 8<=140737488355000):Pub Tryz.prog 15 [.agg (mm W xs ys),.sl false 1 (m64 l)] (fun rv=>rv = .sl false 1 (m64 (rch W xs ys l))):=by
 refine pub_of TT_ok Tryz.func15 rfl (by decide) nk kr<|kb [] 2 [4,2,1] [0] []<|kb [] 1 [5,4,2,1] [0] []<|xw_seq<|kb [] 1 [6,5,4,2,1] [0] []<|xw_block<|xw_loop (α:={q:Int // (0<=q)/\(q<=(l.length:Int))}) (fun p=>⟨[(6,.i p.1),(5,.sl false 1 (m64 (vfd W xs ys fuelN [] l p.1))),(4,.nils),(2,.p 0),(1,.sl false 1 (m64 l))],[(Z3 W xs ys)],1⟩) (fun p=>((l.length:Int) - p.1).toNat) ⟨0,⟨om,om⟩⟩ (le_of [] [sm (0:Int),((m64 (vfd W xs ys fuelN [] l 0)):List SV)=[],fi,sm ((m64 l):List SV),sm (W:Int),fi,sm ((m64 xs):List SV),fi,sm ((m64 ys):List SV)] kr ⟨rfl,rfl,id,rfl,rfl,id,rfl,id,rfl,trivial⟩) ?_
 rintro ⟨i1,h0,h1⟩
 show XW _ _ _ _ _ _ ⟨[(6,.int .i64 i1),(5,.sl false 1 (m64 (vfd W xs ys fuelN [] l i1))),(4,.nils),(2,.loc 0 0),(1,.sl false 1 (m64 l))],[(Z3 W xs ys)],1⟩
 have h2:Vk W xs ys (vfd W xs ys fuelN [] l i1):=(vfd_ok (vk_nil om)).1
 refine xw_seq<|kb [(2,.i ((l).length:Int)),(3,.bool (decide (i1<((l).length:Int))))] 4 [10,6,5,4,2,1] [0] [l6 (SV.int .u64) l,sf (decide (i1<((l).length:Int)))]<|xcD (i1<((l).length:Int)) (fun h3=>?_) (fun h3=>?_)
 ·
  refine xw_skip<|an<|xw_seq<|xw_block<|dregk hmix kr<|kd [(3,.u (ix l i1))] 4 0 [tr,x6 .u64 l i1] ?_
  have h4:U6 (ix l i1):=U64s.ix rq _
  exact kd [] 2 4 [tr]<|pqcall (args:=[.agg (mm W xs ys),.u (ix l i1),.sl false 1 (m64 (vfd W xs ys fuelN [] l i1))]) (args':=[.agg (mm W xs ys),.u (ix l i1),.sl false 1 (m64 (vfd W xs ys fuelN [] l i1))]) (d:=(some 19)) (sv:=.sl false 1 (m64 (vis W xs ys fuelN (vfd W xs ys fuelN [] l i1) (ix l i1)))) kr (rvisit W xs ys (vfd W xs ys fuelN [] l i1) (ix l i1) ZZ ZZ ZZ ZZ ZZ ZZ ZZ) [sm (W:Int),fi,sm ((m64 xs):List SV),fi,sm ((m64 ys):List SV),sm ((ix l i1):Int),fi,sm ((m64 (vfd W xs ys fuelN [] l i1)):List SV)] kr ⟨rfl,id,rfl,id,rfl,rfl,id,rfl,trivial⟩ kr<|kd [] 1 7 []<|qen<|ib<|an<|kC [(1,.i (i1 + 1))] 3 ⟨[(6,.i (i1 + 1)),(5,.sl false 1 (m64 (vis W xs ys fuelN (vfd W xs ys fuelN [] l i1) (ix l i1)))),(4,.nils),(2,.p 0),(1,.sl false 1 (m64 l))],[(Z3 W xs ys)],1⟩ [w6 (i1 + 1)]<|ag ⟨(i1 + 1),⟨om,om⟩⟩ (le_s [] [(2,⟨((m64 (vis W xs ys fuelN (vfd W xs ys fuelN [] l i1) (ix l i1))):List SV)=(m64 (vfd W xs ys fuelN [] l (i1 + 1))),Zb5⟩)]) dm
 ·
  exact xw_exit<|an_exit<|ag_exit<|ib_same<|an<|kb [] 2 [4] [] []<|xw_ret<|br (.sl false 1 (m64 (vfd W xs ys fuelN [] l i1))) (.sl false 1 (m64 (rch W xs ys l))) (wk_s [(1,⟨(m64 (vfd W xs ys fuelN [] l i1))=(m64 (rch W xs ys l)),(by first | rfl | exact congrArg _ (rch_end om))⟩)]) rfl
end Go.Proofs.YtmmfpkkamgapkaaGreat.X
