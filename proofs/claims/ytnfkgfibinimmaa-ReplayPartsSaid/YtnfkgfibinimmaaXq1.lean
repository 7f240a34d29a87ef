/- Rows of numbers: more of them. -/
import Derived.Test.YtnfkgfibinimmaaXq0
namespace Go.Proofs.Ytnfkgfibinimmaa.X
open Go Go.RowKit
theorem take_step {xs us : List Int} {i : Int} (h : xs.take i.toNat = us.take i.toNat) (h0 : 0 ≤ i) (hx : i < (xs.length : Int)) (hu : i < (us.length : Int)) (e : ix xs i = ix us i) : xs.take (i + 1).toNat = us.take (i + 1).toNat := by
  have hn : (i + 1).toNat = i.toNat + 1 := by omega
  have h1 : i.toNat < xs.length := by omega
  have h2 : i.toNat < us.length := by omega
  rw [hn, List.take_add_one, List.take_add_one, h]
  unfold ix at e
  have e' : xs[i.toNat] = us[i.toNat] := by simpa [h1, h2] using e
  rw [List.getElem?_eq_getElem h1, List.getElem?_eq_getElem h2, e']
theorem take_all {xs us : List Int} {i : Int} (h : xs.take i.toNat = us.take i.toNat) (hx : (xs.length : Int) ≤ i) (hu : (us.length : Int) ≤ i) : xs = us := by
  rwa [List.take_of_length_le (by omega), List.take_of_length_le (by omega)] at h
theorem ix_append1 {xs ys : List Int} {i : Int} (h0 : 0 ≤ i) (h : i < (xs.length : Int)) : ix (xs ++ ys) i = ix xs i := by
  unfold ix
  have : i.toNat < xs.length := by omega
  simp [List.getElem?_append_left this]
theorem ix_append2 {xs ys : List Int} {i : Int} (h : (xs.length : Int) ≤ i) : ix (xs ++ ys) i = ix ys (i - (xs.length : Int)) := by
  unfold ix
  have h1 : xs.length ≤ i.toNat := by omega
  have h2 : (i - (xs.length : Int)).toNat = i.toNat - xs.length := by omega
  simp [List.getElem?_append_right h1, h2]

theorem splice1 {xs : List Int} {p v : Int} (h0 : 0 ≤ p) (h1 : p < (xs.length : Int)) : ((([] ++ (List.map (SV.int .u64) xs)) : List SV).take p.toNat ++ ([SV.int .u64 v] : List SV).take ((([] ++ (List.map (SV.int .u64) xs)) : List SV).length - p.toNat) ++ (([] ++ (List.map (SV.int .u64) xs)) : List SV).drop (p.toNat + (([SV.int .u64 v] : List SV).take ((([] ++ (List.map (SV.int .u64) xs)) : List SV).length - p.toNat)).length)) = List.map (SV.int .u64) (st xs p v) := by
  obtain ⟨k, hk⟩ : ∃ k, xs.length - p.toNat = k + 1 := ⟨xs.length - p.toNat - 1, by omega⟩
  have hp : p.toNat < xs.length := by omega
  simp only [List.nil_append, List.length_map, hk, List.take_succ_cons, List.take_nil, List.length_cons, List.length_nil, st]
  rw [List.set_eq_take_append_cons_drop, if_pos hp]
  simp

theorem stx_ok (W : Int) (xs ys : List Int) (a v : Int) (h1 : (xs.length : Int) = W) (h2 : (ys.length : Int) = W) (h3 : U64s xs) (h4 : U64s ys) (hv : 0 ≤ v ∧ v ≤ 18446744073709551615) : ((stx xs a v).length : Int) = W ∧ ((sty ys a v).length : Int) = W ∧ U64s (stx xs a v) ∧ U64s (sty ys a v) :=
  ⟨by rw [len_stx]; exact h1, by rw [len_sty]; exact h2, h3.stx _ hv, h4.sty _ hv⟩
theorem ldw_ok (xs ys : List Int) (a : Int) (h3 : U64s xs) (h4 : U64s ys) : 0 ≤ ldw xs ys a ∧ ldw xs ys a ≤ 18446744073709551615 := h3.ldw h4 a
end Go.Proofs.Ytnfkgfibinimmaa.X
