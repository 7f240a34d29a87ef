/- Proved here: for every input WalkReach returns true, and each argument reads behind the call as it read before. No condition. -/
import Derived.Test.YtlapjlbmhaalbaaRows
import Derived.Test.YtlapjlbmhaalbaaXs
import Derived.Test.YtlapjlbmhaalbaaYWalkReach
namespace Go.Proofs.Ytlapjlbmhaalbaa.walkReach
open Go.ChangeShapes Go.WideShapes Go.ChangeAt Go.RowKit Go.Proofs.Ytlapjlbmhaalbaa.X

theorem own : ownKnob Try.prog.godebug = none := by kernel_rfl
theorem laid : laidOutB Try.prog = true := by kernel_rfl

theorem every (l : List SV) (hl : ArgsLv reachBytes [(true, [.int .i64, .ints .u64 8, .ints .u64 8]), (false, [.ints .u64 8])] l) : Pub Try.prog 4 l (fun t => t = .bool true) := by
  simp only [ArgsLv, LvAll, Lv_i, Lv_n] at hl
  obtain ⟨_, _, rfl, ⟨_, _, rfl, ⟨v0, rfl, w0⟩, ⟨_, _, rfl, ⟨v1, rfl, w1, w1z⟩, ⟨_, _, rfl, ⟨v2, rfl, w2, w2z⟩, rfl⟩⟩⟩, ⟨_, _, rfl, ⟨_, _, he2, ⟨v3, rfl, w3, w3z⟩, hn2⟩, rfl⟩⟩ := hl
  cases he2;
  
  exact walkReach v0 v1 v2 v3 (bounds_i64 w0) (fun n hn => bounds_u64 (w1 n hn)) (fun n hn => bounds_u64 (w2 n hn)) (fun n hn => bounds_u64 (w3 n hn))

set_option maxRecDepth 100000 in
theorem lifted (os : Os) (started : os.Started) (H : Type) (enc : TypeId × Value → H) :
    ReturnsInHanded {} Try.checked os 4 .any (Rows.walkReachSpec.pre6 enc Try.prog Try.f4 Rows.walkReachRow.domain false) (Rows.walkReachSpec.post enc Try.prog Try.f4 false true false false) := by
  refine returnsInHanded_of_change_sized (C := Try.checked) own started (by kernel_rfl) Try.func4
    (ChangeSpec.witness6 (enc := enc) (C := Try.checked) false ⟨#[], #[.agg #[.int .i64 0, .slice none 0 0, .slice none 0 0], .slice none 0 0], []⟩ 8 (by kernel_rfl) (by kernel_rfl) (by kernel_rfl) (by kernel_rfl)) ?_
  intro W base args ds gs before hval hW hcnd hsz _
  exact law_post TT_ok laid (fn := Try.f4) (tb := 4) (d := 24) (sh := [(true, [.int .i64, .ints .u64 8, .ints .u64 8]), (false, [.ints .u64 8])]) rfl Try.underlying4 rfl (by kernel_rfl) (by kernel_rfl)
    (fun ds h => by obtain ⟨d0, d1, rfl⟩ := len2 h; rfl) hval hW hsz every

theorem holds : Rows.WalkReachSaid :=
  OpenClaim.holds_of_wide 4 Try.f4 rfl rfl rfl rfl rfl rfl rfl ⟨rfl, rfl, rfl, rfl, rfl⟩ rfl rfl rfl rfl rfl (by kernel_rfl) Try.func4 (by kernel_rfl)
    (of_decide_eq_true (by kernel_rfl)) (by unfold Func.isWrapper; first | (rw [if_pos (by decide +kernel)]; kernel_rfl) | (rw [if_neg (by decide +kernel)]; exact ⟨rfl, rfl⟩))
    (fun os started H enc _ => lifted os started H enc)
end Go.Proofs.Ytlapjlbmhaalbaa.walkReach
