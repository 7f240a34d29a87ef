/- Rows of structs among the arguments. -/
import Derived.Test.YtjchmajamlehmaaXs
import Derived.Test.YtjchmajamlehmaaXu1
namespace Go.Proofs.Ytjchmajamlehmaa.X
open Go Go.RowKit
theorem lv_entS {B : Nat} {s : SV} (h : Lv B (.sl true 2 16 [.int .u64, .int .i64]) s) : ∃ es : List Ent, s = .sl false 2 (es.map entS) ∧ Ents es ∧ es.length * 16 ≤ B := by
  simp only [Lv, LvAll] at h
  obtain ⟨xs, rfl, h1, h2⟩ := h
  obtain ⟨es, rfl, h3⟩ := lift_map entS (fun e : Ent => (0 ≤ e.1 ∧ e.1 ≤ 18446744073709551615) ∧ (-9223372036854775808 ≤ e.2 ∧ e.2 ≤ 9223372036854775807)) (xs := xs) (fun x hx => by
    obtain ⟨l, rfl, _, _, rfl, ⟨a, rfl, ha⟩, _, _, rfl, ⟨b, rfl, hb⟩, rfl⟩ := h2 x hx
    exact ⟨(a, b), rfl, bounds_u64 ha, bounds_i64 hb⟩)
  exact ⟨es, rfl, h3, by simpa using h1⟩
end Go.Proofs.Ytjchmajamlehmaa.X
