/- Drawn regions whose writers have no order: the runner over all stages. -/
import Derived.Test.YtjchmajamlehmaaXv
namespace Go.Proofs.Ytjchmajamlehmaa.X
open Go Go.RowKit

section
variable {rd : Option Nat} {P : Program} {T : Tab} {N n0 m : Nat} {ops : Array Oper} {fr : Fr} {mem : Mem} {nx : Nat}
theorem UOk.congr {un un' : List Nat} {o : Oper} {sv : SV} {mem1 mem2 : Mem} (h : UOk P N m fr mem nx un o sv mem1 un') (he : ∀ Γ ρ w, Inv Γ ρ nx mem w → (∀ r ∈ un, ρ.blk r = none ∧ ρ.val r = none) → ∀ n, fnd mem2 n = fnd mem1 n) : UOk P N m fr mem nx un o sv mem2 un' := by
  intro Γ ρ w a hi hf hu
  obtain ⟨v, r, Γ', ρ', w', h1, h2, h3, h4, h5, h6, h7, h8, h9, h10, h11⟩ := h Γ ρ w a hi hf hu
  have he := he Γ ρ w hi hu
  refine ⟨v, r, Γ', ρ', w', h1, h2, h3, h4, ⟨h5.pub, fun r B hB => ?_, fun r r' b B B' hB hB' => ?_⟩, h6, h7, ⟨h8.os, h8.tape, h8.output, h8.size, h8.keep, fun b hb => ?_⟩, h9, h10, h11⟩
  · rw [he] at hB; exact h5.priv r B hB
  · rw [he] at hB hB'; exact h5.inj r r' b B B' hB hB'
  · obtain ⟨r, B, hB, hb⟩ := hb
    rw [he] at hB
    exact h8.own b ⟨r, B, hB, hb⟩

variable {sg : List Stg} {ws : List Nat} {bf : List (Nat × List Nat)}

theorem UAll.congr : ∀ {i : Nat} {l : List Oper} {ss : List SV} {fr fr' : Fr}, (∀ t, fnd fr t = fnd fr' t) → UAll P N m ops nx sg ws bf i l ss fr → UAll P N m ops nx sg ws bf i l ss fr'
  | _, [], [], _, _, _, _ => trivial
  | _, [], _ :: _, _, _, _, h => h.elim
  | _, _ :: _, [], _, _, _, h => h.elim
  | i, o :: l, s :: ss, fr, fr', hf, h => by
    obtain ⟨h1, h2⟩ := h
    refine ⟨?_, UAll.congr (putO_congr hf o.dst s) h2⟩
    unfold UStep QStep at *
    rw [← rs_congr hf]; exact h1
end
end Go.Proofs.Ytjchmajamlehmaa.X
