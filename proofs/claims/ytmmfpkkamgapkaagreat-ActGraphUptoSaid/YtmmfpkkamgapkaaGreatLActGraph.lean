/- Proved here: for every input of bulk at most 1048576 ActGraph returns true,and each argument reads behind the call as it read before. Condition: the bulk,as the given Rows say it. -/
import Derived.Test.YtmmfpkkamgapkaaGreatRows
import Derived.Test.YtmmfpkkamgapkaaGreatXu6
import Derived.Test.YtmmfpkkamgapkaaGreatYActGraph
import Derived.Test.YtmmfpkkamgapkaaGreatXt1
namespace Go.Proofs.YtmmfpkkamgapkaaGreat.actGraph
open Go.ChangeShapes Go.WideShapes Go.ChangeAt Go.RowKit Go.Proofs.YtmmfpkkamgapkaaGreat.X
theorem own:ownKnob Tryz.prog.godebug=none:=by kernel_rfl
theorem laid:laidOutB Tryz.prog=true:=by kernel_rfl
theorem every (l:List SV)(hl:ArgsLv 209715200 [(true,[.int .i64,.ints .u64 8,.ints .u64 8,.int .i64,.int .i64,.int .i64,.int .i64,.int .i64,.int .i64,.int .i64,.int .i64,.sl true 8 144 [.ints .u64 8,.int .i64,.int .i64,.sl true 2 16 [.int .u64,.int .i64],.sl true 8 64 [.int .i64,.int .i64,.int .i64,.int .i64,.int .u64,.int .i64,.int .i64,.int .u64],.sl true 2 16 [.int .u64,.int .i64],.bool,.sl true 3 24 [.int .i64,.int .u64,.bool]],.int .i64,.int .i64,.int .i64,.ints .i64 8,.int .i64]),(false,[.int .i64])] l):Pub Tryz.prog 3 l (fun t=>t = .bool true):=by
 simp only [ArgsLv,LvAll,Lv_i,Lv_n] at hl
 obtain ⟨_,_,rfl,⟨_,_,rfl,⟨v0,rfl,w0⟩,⟨_,_,rfl,⟨v1,rfl,w1,w1z⟩,⟨_,_,rfl,⟨v2,rfl,w2,w2z⟩,⟨_,_,rfl,⟨v3,rfl,w3⟩,⟨_,_,rfl,⟨v4,rfl,w4⟩,⟨_,_,rfl,⟨v5,rfl,w5⟩,⟨_,_,rfl,⟨v6,rfl,w6⟩,⟨_,_,rfl,⟨v7,rfl,w7⟩,⟨_,_,rfl,⟨v8,rfl,w8⟩,⟨_,_,rfl,⟨v9,rfl,w9⟩,⟨_,_,rfl,⟨v10,rfl,w10⟩,⟨_,_,rfl,g12,⟨_,_,rfl,⟨v12,rfl,w12⟩,⟨_,_,rfl,⟨v13,rfl,w13⟩,⟨_,_,rfl,⟨v14,rfl,w14⟩,⟨_,_,rfl,⟨v15,rfl,w15,w15z⟩,⟨_,_,rfl,⟨v16,rfl,w16⟩,rfl⟩⟩⟩⟩⟩⟩⟩⟩⟩⟩⟩⟩⟩⟩⟩⟩⟩,⟨_,_,rfl,⟨_,_,he2,⟨v17,rfl,w17⟩,hn2⟩,rfl⟩⟩:=hl
 cases he2;
 obtain ⟨v11,rfl,w11,w11z⟩:=lv_thQ (by decide) g12
 exact actGraph v0 v1 v2 v3 v4 v5 v6 v7 v8 v9 v10 v11 v12 v13 v14 v15 v16 v17 (bounds_i64 w0) (fun n hn=>bounds_u64 (w1 n hn)) (fun n hn=>bounds_u64 (w2 n hn)) (bounds_i64 w3) (bounds_i64 w4) (bounds_i64 w5) (bounds_i64 w6) (bounds_i64 w7) (bounds_i64 w8) (bounds_i64 w9) (bounds_i64 w10) w11.1.1 (by have h:=w11z; omega) (bounds_i64 w12) (bounds_i64 w13) (bounds_i64 w14) (fun n hn=>bounds_i64 (w15 n hn)) (by have h:=w15z; omega) (bounds_i64 w16) (bounds_i64 w17) w11.1.2 (by have h:=w1z; omega) (by have h:=w2z; omega) w11.2 (by have h:=w15z; omega)
set_option maxRecDepth 100000 in
theorem lifted (os:Os)(started:os.Started)(H:Type)(enc:TypeId×Value->H)(F:Stop.Interp) :
  ReturnsInHanded {} Tryz.checked os 3 .any ((Rows.OpenSpec.upto Rows.actGraphSpec).pre6 enc Tryz.prog Tryz.f3 Rows.actGraphUptoRow.domain false) (((Rows.OpenSpec.upto Rows.actGraphSpec).at F).post enc Tryz.prog Tryz.f3 false true false false):=by
 refine returnsInHanded_of_cond (C:=Tryz.checked) (s:=Rows.OpenSpec.upto Rows.actGraphSpec) (k:=Rows.uptoSmall) rfl own started (by kernel_rfl) Tryz.func3
  (OpenSpec.witness (enc:=enc) (C:=Tryz.checked) (s:=Rows.OpenSpec.upto Rows.actGraphSpec) (k:=Rows.uptoSmall) rfl false ⟨#[],#[.agg #[.int .i64 0,.slice none 0 0,.slice none 0 0,.int .i64 0,.int .i64 0,.int .i64 0,.int .i64 0,.int .i64 0,.int .i64 0,.int .i64 0,.int .i64 0,.slice none 0 0,.int .i64 0,.int .i64 0,.int .i64 0,.slice none 0 0,.int .i64 0],.int .i64 0],[]⟩ 16 (by kernel_rfl) (by kernel_rfl) (by kernel_rfl)
   (x:=([.agg [.agg [.lit (.int .i64 0),.agg [.nil,.nil]],.agg [.lit (.int .i64 0),.lit (.int .i64 0),.lit (.int .i64 0)],.agg [.lit (.int .i64 0),.lit (.int .i64 0),.lit (.int .i64 0)],.lit (.int .i64 0),.lit (.int .i64 0),.nil,.lit (.int .i64 0),.lit (.int .i64 0),.lit (.int .i64 0),.nil,.lit (.int .i64 0)],.lit (.int .i64 0)],[],[])) (by kernel_rfl) rfl (by kernel_rfl)) ?_
 intro W base args ds gs before hval hW _ hk _
 have hg:gs=[]:=by
  obtain ⟨p,q,_,hV,_⟩:=hW
  cases gs with
  | nil=>rfl
  | cons g gs=>exact hV.elim
 subst hg
 rw [List.append_nil] at hk
 exact law_postB TT_ok laid (fn:=Tryz.f3) (s:=Rows.actGraphSpec) (tb:=4) (d:=24) (sh:=[(true,[.int .i64,.ints .u64 8,.ints .u64 8,.int .i64,.int .i64,.int .i64,.int .i64,.int .i64,.int .i64,.int .i64,.int .i64,.sl true 8 144 [.ints .u64 8,.int .i64,.int .i64,.sl true 2 16 [.int .u64,.int .i64],.sl true 8 64 [.int .i64,.int .i64,.int .i64,.int .i64,.int .u64,.int .i64,.int .i64,.int .u64],.sl true 2 16 [.int .u64,.int .i64],.bool,.sl true 3 24 [.int .i64,.int .u64,.bool]],.int .i64,.int .i64,.int .i64,.ints .i64 8,.int .i64]),(false,[.int .i64])]) rfl Tryz.underlying4 rfl (by kernel_rfl) (by kernel_rfl)
  (fun ds h=>by obtain ⟨d0,d1,rfl⟩:=len2 h; rfl) hval hW (small_w (S:=[32,3,25,27,28,29,30,23,42,22,37,38,39,4,40,52,83,60,54,58]) (M:=200) (by kernel_rfl) (by decide) (by decide) hk) every
theorem holds:Rows.ActGraphUptoSaid :=
 OpenClaim.holds_of_cond 3 Tryz.f3 rfl rfl rfl rfl rfl rfl rfl ⟨rfl,rfl,rfl,rfl,rfl⟩ rfl rfl rfl rfl rfl (by kernel_rfl) Tryz.func3 (by kernel_rfl)
  (of_decide_eq_true (by kernel_rfl)) (by unfold Func.isWrapper; first | (rw [if_pos (by decide +kernel)]; kernel_rfl) | (rw [if_neg (by decide +kernel)]; exact ⟨rfl,rfl⟩))
  (fun os started H enc _ F=>lifted os started H enc F)
end Go.Proofs.YtmmfpkkamgapkaaGreat.actGraph
