/- Proved here: for every input ReplayParts returns true, and each argument reads behind the call as it read before. No condition. -/
import Derived.Test.YtnfkgfibinimmaaRows
import Derived.Test.YtnfkgfibinimmaaXu2
import Derived.Test.YtnfkgfibinimmaaYReplayParts
namespace Go.Proofs.Ytnfkgfibinimmaa.replayParts
open Go.ChangeShapes Go.WideShapes Go.ChangeAt Go.RowKit Go.Proofs.Ytnfkgfibinimmaa.X

theorem own : ownKnob Try.prog.godebug = none := by kernel_rfl
theorem laid : laidOutB Try.prog = true := by kernel_rfl

theorem every (l : List SV) (hl : ArgsLv reachBytes [(true, [.int .i64, .ints .u64 8, .ints .u64 8, .int .i64, .int .i64, .int .i64, .int .i64, .int .i64]), (false, [.sl true 2 16 [.int .u64, .int .i64]]), (false, [.sl true 2 16 [.int .u64, .int .i64]])] l) : Pub Try.prog 4 l (fun t => t = .bool true) := by
  simp only [ArgsLv, LvAll, Lv_i, Lv_n] at hl
  obtain ⟨_, _, rfl, ⟨_, _, rfl, ⟨v0, rfl, w0⟩, ⟨_, _, rfl, ⟨v1, rfl, w1, w1z⟩, ⟨_, _, rfl, ⟨v2, rfl, w2, w2z⟩, ⟨_, _, rfl, ⟨v3, rfl, w3⟩, ⟨_, _, rfl, ⟨v4, rfl, w4⟩, ⟨_, _, rfl, ⟨v5, rfl, w5⟩, ⟨_, _, rfl, ⟨v6, rfl, w6⟩, ⟨_, _, rfl, ⟨v7, rfl, w7⟩, rfl⟩⟩⟩⟩⟩⟩⟩⟩, ⟨_, _, rfl, ⟨_, _, he2, g9, hn2⟩, ⟨_, _, rfl, ⟨_, _, he3, g10, hn3⟩, rfl⟩⟩⟩ := hl
  cases he2; cases he3;
  obtain ⟨v8, rfl, w8, w8z⟩ := lv_entS g9
  obtain ⟨v9, rfl, w9, w9z⟩ := lv_entS g10
  exact replayParts v0 v1 v2 v3 v4 v5 v6 v7 v8 v9 (bounds_i64 w0) (fun n hn => bounds_u64 (w1 n hn)) (fun n hn => bounds_u64 (w2 n hn)) (bounds_i64 w3) (bounds_i64 w4) (bounds_i64 w5) (bounds_i64 w6) (bounds_i64 w7) w8 (by have h := w8z; unfold reachBytes at h; omega) w9 (by have h := w9z; unfold reachBytes at h; omega)

set_option maxRecDepth 100000 in
theorem lifted (os : Os) (started : os.Started) (H : Type) (enc : TypeId × Value → H) :
    ReturnsInHanded {} Try.checked os 4 .any (Rows.replayPartsSpec.pre6 enc Try.prog Try.f4 Rows.replayPartsRow.domain false) (Rows.replayPartsSpec.post enc Try.prog Try.f4 false true false false) := by
  refine returnsInHanded_of_change_sized (C := Try.checked) own started (by kernel_rfl) Try.func4
    (ChangeSpec.witness6 (enc := enc) (C := Try.checked) false ⟨#[], #[.agg #[.int .i64 0, .slice none 0 0, .slice none 0 0, .int .i64 0, .int .i64 0, .int .i64 0, .int .i64 0, .int .i64 0], .slice none 0 0, .slice none 0 0], []⟩ 8 (by kernel_rfl) (by kernel_rfl) (by kernel_rfl) (by kernel_rfl)) ?_
  intro W base args ds gs before hval hW hcnd hsz _
  exact law_post TT_ok laid (fn := Try.f4) (tb := 4) (d := 24) (sh := [(true, [.int .i64, .ints .u64 8, .ints .u64 8, .int .i64, .int .i64, .int .i64, .int .i64, .int .i64]), (false, [.sl true 2 16 [.int .u64, .int .i64]]), (false, [.sl true 2 16 [.int .u64, .int .i64]])]) rfl Try.underlying4 rfl (by kernel_rfl) (by kernel_rfl)
    (fun ds h => by obtain ⟨d0, d1, d2, rfl⟩ := len3 h; rfl) hval hW hsz every

theorem holds : Rows.ReplayPartsSaid :=
  OpenClaim.holds_of_wide 4 Try.f4 rfl rfl rfl rfl rfl rfl rfl ⟨rfl, rfl, rfl, rfl, rfl⟩ rfl rfl rfl rfl rfl (by kernel_rfl) Try.func4 (by kernel_rfl)
    (of_decide_eq_true (by kernel_rfl)) (by unfold Func.isWrapper; first | (rw [if_pos (by decide +kernel)]; kernel_rfl) | (rw [if_neg (by decide +kernel)]; exact ⟨rfl, rfl⟩))
    (fun os started H enc _ => lifted os started H enc)
end Go.Proofs.Ytnfkgfibinimmaa.replayParts
