/- What is reached, as a function. No program in sight. -/
import Derived.Test.YtlapjlbmhaalbaaXu4
import Derived.Test.YtlapjlbmhaalbaaXq5
namespace Go.Proofs.Ytlapjlbmhaalbaa.X
open Go Go.RowKit
set_option linter.unusedVariables false

/-- An object, and what its pointers lead to, if it isn't told yet. -/
def vis (W : Int) (xs ys : List Int) : Nat → List Int → Int → List Int
  | 0, o, _ => o
  | n + 1, o, a => if rlB W xs ys a = true ∧ a ∉ o then (ptrs W xs ys a).foldl (vis W xs ys n) (o ++ [a]) else o
/-- Its first pointers gone through. -/
def vfd (W : Int) (xs ys : List Int) (n : Nat) (o l : List Int) (k : Int) : List Int := (l.take k.toNat).foldl (vis W xs ys n) o
/-- More than there are objects. -/
def fuelN : Nat := 8193
def rch (W : Int) (xs ys l : List Int) : List Int := l.foldl (vis W xs ys fuelN) []
/-- How many objects aren't told yet. -/
def spots (W : Int) : List Int := (List.range W.toNat).map (fun i : Nat => 4294967296 + (i : Int)) ++ (List.range W.toNat).map (fun i : Nat => 8589934592 + (i : Int))
def fre (W : Int) (xs ys o : List Int) : Int := (((spots W).filter fun a => rlB W xs ys a && !decide (a ∈ o)).length : Int)
/-- Rows that are gone on with. -/
def Vk (W : Int) (xs ys o : List Int) : Prop := U64s o ∧ (o.length : Int) + fre W xs ys o ≤ 8192
section
variable {W : Int} {xs ys : List Int} {n : Nat} {o l : List Int} {a k : Int}
theorem flt_le {p q : Int → Bool} (hpq : ∀ y, q y = true → p y = true) : ∀ l : List Int, (l.filter q).length ≤ (l.filter p).length
  | [] => by simp
  | z :: l => by
    have ih := flt_le hpq l
    cases hq : q z with
    | true => simp [hq, hpq z hq]; omega
    | false => cases hp : p z <;> simp [hq, hp] <;> omega
theorem flt_lt {p q : Int → Bool} {x : Int} (hx : p x = true) (hy : q x = false) (hpq : ∀ y, q y = true → p y = true) : ∀ {l : List Int}, x ∈ l → (l.filter q).length < (l.filter p).length
  | [], h => by cases h
  | y :: l, h => by
    have hle := flt_le hpq l
    rcases List.mem_cons.1 h with rfl | h
    · simp [hx, hy]; omega
    · have ih := flt_lt hx hy hpq h
      cases hq : q y with
      | true => simp [hq, hpq y hq]; omega
      | false => cases hp : p y <;> simp [hq, hp] <;> omega
theorem rlB_spot (h : rlB W xs ys a = true) : a ∈ spots W := by
  have h1 := (of_decide_eq_true h).1
  obtain ⟨g, _⟩ := oErr_ok W xs ys a h1
  unfold spots
  by_cases e : a / 4294967296 = 1
  · exact List.mem_append_left _ (List.mem_map.2 ⟨(a % 4294967296).toNat, List.mem_range.2 (by omega), (by show (4294967296 : Int) + (((a % 4294967296).toNat : Nat) : Int) = a; omega)⟩)
  · exact List.mem_append_right _ (List.mem_map.2 ⟨(a % 4294967296).toNat, List.mem_range.2 (by omega), (by show (8589934592 : Int) + (((a % 4294967296).toNat : Nat) : Int) = a; omega)⟩)
theorem fre_lt (h : rlB W xs ys a = true) (h2 : a ∉ o) : fre W xs ys (o ++ [a]) < fre W xs ys o := by
  unfold fre
  have := flt_lt (p := fun b => rlB W xs ys b && !decide (b ∈ o)) (q := fun b => rlB W xs ys b && !decide (b ∈ o ++ [a])) (x := a) (by simp [h, h2]) (by simp) (fun y hy => by
    simp only [Bool.and_eq_true, Bool.not_eq_true', decide_eq_false_iff_not, List.mem_append, not_or] at *
    exact ⟨hy.1, hy.2.1⟩) (rlB_spot h)
  omega
theorem fre_0 : 0 ≤ fre W xs ys o := by unfold fre; omega
theorem fre_le (h : 0 ≤ W ∧ W ≤ 4096) : fre W xs ys o ≤ 8192 := by
  unfold fre
  have := List.length_filter_le (fun a => rlB W xs ys a && !decide (a ∈ o)) (spots W)
  have h2 : (spots W).length = W.toNat + W.toNat := by simp [spots]
  omega
theorem rlB_u64 (h : rlB W xs ys a = true) : 0 ≤ a ∧ a ≤ 18446744073709551615 := by
  have h1 := (of_decide_eq_true h).1
  obtain ⟨g, _⟩ := oErr_ok W xs ys a h1
  omega
theorem vk_add (h : Vk W xs ys o) (hr : rlB W xs ys a = true) (hn : a ∉ o) : Vk W xs ys (o ++ [a]) := by
  refine ⟨h.1.append (U64s.cons (rlB_u64 hr) U64s.nil), ?_⟩
  have := fre_lt hr hn; have := h.2
  simp only [List.length_append, List.length_singleton]; omega
mutual
theorem vis_ok (W : Int) (xs ys : List Int) : ∀ (n : Nat) (o : List Int) (a : Int), Vk W xs ys o → Vk W xs ys (vis W xs ys n o a) ∧ fre W xs ys (vis W xs ys n o a) ≤ fre W xs ys o
  | 0, o, a, h => ⟨h, Int.le_refl _⟩
  | n + 1, o, a, h => by
    unfold vis
    by_cases hc : rlB W xs ys a = true ∧ a ∉ o
    · rw [if_pos hc]
      obtain ⟨g1, g2⟩ := fold_ok W xs ys n (ptrs W xs ys a) (o ++ [a]) (vk_add h hc.1 hc.2)
      exact ⟨g1, by have := fre_lt hc.1 hc.2; omega⟩
    · rw [if_neg hc]; exact ⟨h, Int.le_refl _⟩
theorem fold_ok (W : Int) (xs ys : List Int) (n : Nat) : ∀ (l o : List Int), Vk W xs ys o → Vk W xs ys (l.foldl (vis W xs ys n) o) ∧ fre W xs ys (l.foldl (vis W xs ys n) o) ≤ fre W xs ys o
  | [], o, h => ⟨h, Int.le_refl _⟩
  | b :: l, o, h => by
    obtain ⟨g1, g2⟩ := vis_ok W xs ys n o b h
    obtain ⟨g3, g4⟩ := fold_ok W xs ys n l _ g1
    exact ⟨g3, by simp only [List.foldl_cons]; omega⟩
end
theorem vfd_ok (h : Vk W xs ys o) : Vk W xs ys (vfd W xs ys n o l k) ∧ fre W xs ys (vfd W xs ys n o l k) ≤ fre W xs ys o := fold_ok W xs ys n _ o h
theorem vfd_0 : vfd W xs ys n o l 0 = o := rfl
theorem vfd_next (h0 : 0 ≤ k) (h : k < (l.length : Int)) : vis W xs ys n (vfd W xs ys n o l k) (ix l k) = vfd W xs ys n o l (k + 1) := by
  unfold vfd
  rw [take_next h0 h, List.foldl_append]; rfl
theorem vfd_end (h : (l.length : Int) ≤ k) : vfd W xs ys n o l k = l.foldl (vis W xs ys n) o := by
  unfold vfd; rw [List.take_of_length_le (by omega)]
theorem vis_no (h : ¬ (rlB W xs ys a = true ∧ a ∉ o)) : vis W xs ys (n + 1) o a = o := by unfold vis; rw [if_neg h]
theorem vis_yes (h : rlB W xs ys a = true) (h2 : a ∉ o) (hk : ((ptrs W xs ys a).length : Int) ≤ k) : vfd W xs ys n (o ++ [a]) (ptrs W xs ys a) k = vis W xs ys (n + 1) o a := by
  unfold vis; rw [if_pos ⟨h, h2⟩, vfd_end hk]
end
section
variable {W : Int} {xs ys : List Int} {n : Nat} {o l : List Int} {a k : Int}
theorem vk_nil (h : 0 ≤ W ∧ W ≤ 4096) : Vk W xs ys [] := ⟨U64s.nil, by have := fre_le (xs := xs) (ys := ys) (o := []) h; simpa using this⟩
theorem fre_fuel (h : 0 ≤ W ∧ W ≤ 4096) : fre W xs ys o < ((fuelN : Nat) : Int) := by
  have := fre_le (xs := xs) (ys := ys) (o := o) h
  unfold fuelN; omega
theorem rl_of (h : oErr W xs ys a = 0) (h2 : isFil W xs ys a = false) : rlB W xs ys a = true := by
  unfold rlB; unfold isFil at h2
  have := of_decide_eq_false h2
  exact decide_eq_true ⟨h, fun e => this ⟨h, e⟩⟩
theorem not_in (h : hasB o a = false) : a ∉ o := of_decide_eq_false h
theorem addS_new (h : hasB o a = false) : addS o a = o ++ [a] := by unfold addS; rw [if_neg (not_in h)]
theorem vis_n1 (h : oErr W xs ys a ≠ 0) : o = vis W xs ys (n + 1) o a := (vis_no (fun hc => h (of_decide_eq_true hc.1).1)).symm
theorem vis_n2 (h : isFil W xs ys a = true) : o = vis W xs ys (n + 1) o a := (vis_no (fun hc => (of_decide_eq_true hc.1).2 (of_decide_eq_true h).2)).symm
theorem vis_n3 (h : hasB o a = true) : o = vis W xs ys (n + 1) o a := (vis_no (fun hc => hc.2 (of_decide_eq_true h))).symm
theorem vis_end (ho : oErr W xs ys a = 0) (hf : isFil W xs ys a = false) (hs : hasB o a = false) (hk : ((ptL ((ldw xs ys a / 4294967296) % 16777216) (ldw xs ys a % 4294967296) (Int.toNat ((ldw xs ys a / 4294967296) % 16777216))).length : Int) ≤ k) :
    vfd W xs ys n (o ++ [a]) (ptrs W xs ys a) k = vis W xs ys (n + 1) o a := vis_yes (rl_of ho hf) (not_in hs) (by rw [ptrs_1 ho]; simpa using hk)
theorem vfd_nx (ho : oErr W xs ys a = 0) (h0 : 0 ≤ k) (h : k < ((ptL ((ldw xs ys a / 4294967296) % 16777216) (ldw xs ys a % 4294967296) (Int.toNat ((ldw xs ys a / 4294967296) % 16777216))).length : Int)) :
    vis W xs ys n (vfd W xs ys n o (ptrs W xs ys a) k) (ldw xs ys (a + 2 + ix (ptL ((ldw xs ys a / 4294967296) % 16777216) (ldw xs ys a % 4294967296) (Int.toNat ((ldw xs ys a / 4294967296) % 16777216))) k)) = vfd W xs ys n o (ptrs W xs ys a) (k + 1) := by
  rw [← vfd_next h0 (by rw [ptrs_1 ho]; simpa using h)]
  congr 1
  rw [ptrs_1 ho, ix_map h0 h]
theorem vfd_vk (h : Vk W xs ys o) (ho : oErr W xs ys a = 0) (hf : isFil W xs ys a = false) (hs : hasB o a = false) : Vk W xs ys (vfd W xs ys n (o ++ [a]) l k) := (vfd_ok (vk_add h (rl_of ho hf) (not_in hs))).1
theorem vfd_fre (h : Vk W xs ys o) (ho : oErr W xs ys a = 0) (hf : isFil W xs ys a = false) (hs : hasB o a = false) : fre W xs ys (vfd W xs ys n (o ++ [a]) l k) < fre W xs ys o := by
  have h1 := (vfd_ok (n := n) (l := l) (k := k) (vk_add h (rl_of ho hf) (not_in hs))).2
  have h2 := fre_lt (rl_of ho hf) (not_in hs)
  omega
theorem vk_len (h : Vk W xs ys o) : (o.length : Int) ≤ 8192 := by have := h.2; have := fre_0 (W := W) (xs := xs) (ys := ys) (o := o); omega
theorem rch_ok (h : 0 ≤ W ∧ W ≤ 4096) : U64s (rch W xs ys l) ∧ ((rch W xs ys l).length : Int) ≤ 8192 := by
  have := (fold_ok W xs ys fuelN l [] (vk_nil h)).1
  exact ⟨this.1, vk_len this⟩
theorem rch_okx (W : Int) (xs ys l : List Int) (h : 0 ≤ W ∧ W ≤ 4096) : U64s (rch W xs ys l) ∧ ((rch W xs ys l).length : Int) ≤ 8192 := rch_ok h
theorem rch_end (h : (l.length : Int) ≤ k) : vfd W xs ys fuelN [] l k = rch W xs ys l := vfd_end h
end
section
variable {W : Int} {xs ys : List Int} {n : Nat} {o l : List Int} {a k : Int}
theorem rl0 : rlB W xs ys 0 = false := by
  unfold rlB
  refine decide_eq_false (fun h => ?_)
  have := (oErr_ok W xs ys 0 h.1).1
  omega
/-! What was told stays, in its place. -/
mutual
theorem vis_pre (W : Int) (xs ys : List Int) : ∀ (n : Nat) (o : List Int) (a : Int), o <+: vis W xs ys n o a
  | 0, o, a => List.prefix_refl _
  | n + 1, o, a => by
    unfold vis
    split
    · exact (List.prefix_append o [a]).trans (fold_pre W xs ys n _ _)
    · exact List.prefix_refl _
theorem fold_pre (W : Int) (xs ys : List Int) (n : Nat) : ∀ (l o : List Int), o <+: l.foldl (vis W xs ys n) o
  | [], o => List.prefix_refl _
  | b :: l, o => (vis_pre W xs ys n o b).trans (fold_pre W xs ys n l _)
end
theorem rch_more : rch W xs ys (l ++ [a]) = vis W xs ys fuelN (rch W xs ys l) a := by unfold rch; rw [List.foldl_append]; rfl
theorem rch_take : (rch W xs ys (l ++ [a])).take (Int.toNat ((rch W xs ys l).length : Int)) = rch W xs ys l := by
  have h := vis_pre W xs ys fuelN (rch W xs ys l) a
  rw [← rch_more] at h
  obtain ⟨t, ht⟩ := h
  rw [← ht]; simp
theorem rch_len : ((rch W xs ys l).length : Int) ≤ ((rch W xs ys (l ++ [a])).length : Int) := by
  have h := vis_pre W xs ys fuelN (rch W xs ys l) a
  rw [← rch_more] at h
  exact Int.ofNat_le.2 h.length_le
theorem rch_nil : rch W xs ys [] = [] := rfl
theorem rch_nil_len : ((rch W xs ys []).length : Int) = 0 := rfl

/-! In a row that nothing leads out of. -/
def Sd (W : Int) (xs ys l : List Int) : Prop := ∀ x ∈ l, (ptrs W xs ys x).all (okB l) = true
theorem sd_of (h : snB W xs ys l (l.length : Int) = true) : Sd W xs ys l := fun x hx => by
  unfold snB at h
  rw [show (Int.toNat (l.length : Int)) = l.length by omega, List.take_length, List.all_eq_true] at h
  exact h x hx
mutual
theorem vis_in (W : Int) (xs ys l : List Int) (hs : Sd W xs ys l) : ∀ (n : Nat) (o : List Int) (a : Int), (∀ x ∈ o, x ∈ l) → (a = 0 ∨ a ∈ l) → ∀ x ∈ vis W xs ys n o a, x ∈ l
  | 0, o, a, h, _ => h
  | n + 1, o, a, h, ha => by
    unfold vis
    split
    · rename_i hc
      have hal : a ∈ l := ha.resolve_left (fun e => by rw [e, rl0] at hc; exact absurd hc.1 (by decide))
      refine fold_in W xs ys l hs n _ _ (fun x hx => ?_) (fun x hx => ?_)
      · rcases List.mem_append.1 hx with hx | hx
        · exact h x hx
        · rw [List.mem_singleton.1 hx]; exact hal
      · have := List.all_eq_true.1 (hs a hal) x hx
        simpa [okB] using this
    · exact h
theorem fold_in (W : Int) (xs ys l : List Int) (hs : Sd W xs ys l) (n : Nat) : ∀ (q o : List Int), (∀ x ∈ o, x ∈ l) → (∀ x ∈ q, x = 0 ∨ x ∈ l) → ∀ x ∈ q.foldl (vis W xs ys n) o, x ∈ l
  | [], o, h, _ => h
  | b :: q, o, h, hq => fold_in W xs ys l hs n q _ (vis_in W xs ys l hs n o b h (hq b List.mem_cons_self)) (fun x hx => hq x (List.mem_cons_of_mem _ hx))
end
theorem ix_mem (h0 : 0 ≤ k) (h : k < (l.length : Int)) : ix l k ∈ l := by
  have h3 : k.toNat < l.length := by omega
  have : ix l k = l[k.toNat] := by simp [ix, h3]
  rw [this]; exact List.getElem_mem h3
/-- What is reached from one of a sound row's is one of them. -/
theorem sound_has {i : Int} (h : snB W xs ys l (l.length : Int) = true) (h0 : 0 ≤ i) (h1 : i < (l.length : Int)) (k0 : 0 ≤ k) (k1 : k < ((rch W xs ys [ix l i]).length : Int)) : hasB l (ix (rch W xs ys [ix l i]) k) = true := by
  unfold hasB
  refine decide_eq_true ?_
  have := fold_in W xs ys l (sd_of h) fuelN [ix l i] [] (fun x hx => by cases hx) (fun x hx => by rw [List.mem_singleton.1 hx]; exact .inr (ix_mem h0 h1))
  exact this _ (ix_mem k0 k1)
/-! What is real is told. -/
theorem vis_mem (h : rlB W xs ys a = true) : a ∈ vis W xs ys (n + 1) o a := by
  unfold vis
  by_cases hc : a ∈ o
  · rw [if_neg (fun h2 => h2.2 hc)]; exact hc
  · rw [if_pos ⟨h, hc⟩]
    exact (fold_pre W xs ys n _ _).subset (List.mem_append_right _ List.mem_cons_self)
theorem rch_one (h : rlB W xs ys a = true) : 1 ≤ ((rch W xs ys [a]).length : Int) := by
  have : a ∈ rch W xs ys [a] := vis_mem (n := 8192) (o := []) h
  have := List.length_pos_of_mem this
  omega
end
section
variable {W : Int} {xs ys : List Int} {n : Nat} {o l : List Int} {a k i s lim : Int}
theorem chain_all : ∀ {l : List Int} {p : Int}, chain W xs ys s lim p l → ∀ x ∈ l, oErr W xs ys x = 0
  | [], p, _ => fun x hx => by cases hx
  | a :: l, p, h => fun x hx => by
    simp only [chain] at h
    rcases List.mem_cons.1 hx with rfl | hx
    · exact h.2.2.1
    · exact chain_all h.2.2.2.2 x hx
theorem wO_rl (h : 0 ≤ lim) (he : wE W xs ys s lim = 0) (h0 : 0 ≤ i) (hi : i < ((wO W xs ys s lim).length : Int)) : rlB W xs ys (ix (wO W xs ys s lim) i) = true := by
  have hm : ix (wO W xs ys s lim) i ∈ (wA W xs ys s lim).filter (nf W xs ys) := ix_mem h0 hi
  obtain ⟨h1, h2⟩ := List.mem_filter.1 hm
  have h3 := chain_all (chain_0 h he) _ (by simpa using h1)
  refine rl_of h3 ?_
  unfold nf at h2
  simpa using h2
theorem reach1 (h : 0 ≤ lim) (he : wE W xs ys s lim = 0) (h0 : 0 ≤ i) (hi : i < ((wO W xs ys s lim).length : Int)) : 1 ≤ ((rch W xs ys [ix (wO W xs ys s lim) i]).length : Int) := rch_one (wO_rl h he h0 hi)
theorem sound_ix (h : snB W xs ys l (l.length : Int) = true) (h0 : 0 ≤ i) (h1 : i < (l.length : Int)) (k0 : 0 ≤ k) : ((rch W xs ys [ix l i]).length : Int) ≤ k ∨ hasB l (ix (rch W xs ys [ix l i]) k) = true := by
  by_cases hk : ((rch W xs ys [ix l i]).length : Int) ≤ k
  · exact .inl hk
  · exact .inr (sound_has h h0 h1 k0 (by omega))

/-! Told once. -/
mutual
theorem vis_nd (W : Int) (xs ys : List Int) : ∀ (n : Nat) (o : List Int) (a : Int), o.Nodup → (vis W xs ys n o a).Nodup
  | 0, o, a, h => h
  | n + 1, o, a, h => by
    unfold vis
    split
    · rename_i hc
      refine fold_nd W xs ys n _ _ ?_
      rw [List.nodup_append]
      refine ⟨h, by simp, fun x hx y hy e => ?_⟩
      rw [List.mem_singleton.1 hy] at e
      exact hc.2 (e ▸ hx)
    · exact h
theorem fold_nd (W : Int) (xs ys : List Int) (n : Nat) : ∀ (l o : List Int), o.Nodup → (l.foldl (vis W xs ys n) o).Nodup
  | [], o, h => h
  | b :: l, o, h => fold_nd W xs ys n l _ (vis_nd W xs ys n o b h)
end
theorem nd_ix {r : List Int} (h : r.Nodup) (k0 : 0 ≤ k) (i0 : 0 ≤ i) (hi : i < (r.length : Int)) : (r.length : Int) ≤ k ∨ k = i ∨ ix r k ≠ ix r i := by
  by_cases hk : (r.length : Int) ≤ k
  · exact .inl hk
  · by_cases e : k = i
    · exact .inr (.inl e)
    · refine .inr (.inr (fun he => ?_))
      have hk3 : k.toNat < r.length := by omega
      have hi3 : i.toNat < r.length := by omega
      have e1 : ix r k = r[k.toNat] := by simp [ix, hk3]
      have e2 : ix r i = r[i.toNat] := by simp [ix, hi3]
      rw [e1, e2] at he
      have hp := List.pairwise_iff_getElem.1 h
      rcases Nat.lt_or_ge k.toNat i.toNat with hlt | hge
      · exact hp _ _ hk3 hi3 hlt he
      · exact hp _ _ hi3 hk3 (by omega) he.symm
theorem once_ix (k0 : 0 ≤ k) (i0 : 0 ≤ i) (hi : i < ((rch W xs ys l).length : Int)) : ((rch W xs ys l).length : Int) ≤ k ∨ k = i ∨ ix (rch W xs ys l) k ≠ ix (rch W xs ys l) i :=
  nd_ix (fold_nd W xs ys fuelN l [] List.nodup_nil) k0 i0 hi

/-! From a root, or from one that is told. -/
mutual
theorem vis_from (W : Int) (xs ys : List Int) : ∀ (n : Nat) (o : List Int) (a : Int), ∀ x ∈ vis W xs ys n o a, x ∈ o ∨ x = a ∨ ∃ y ∈ vis W xs ys n o a, x ∈ ptrs W xs ys y
  | 0, o, a, x, hx => .inl hx
  | n + 1, o, a, x, hx => by
    unfold vis at hx ⊢
    split at hx
    · rename_i hc
      rw [if_pos hc]
      rcases fold_from W xs ys n _ _ x hx with h | h | h
      · rcases List.mem_append.1 h with h | h
        · exact .inl h
        · exact .inr (.inl (List.mem_singleton.1 h))
      · exact .inr (.inr ⟨a, (fold_pre W xs ys n _ _).subset (List.mem_append_right _ List.mem_cons_self), h⟩)
      · exact .inr (.inr h)
    · exact .inl hx
theorem fold_from (W : Int) (xs ys : List Int) (n : Nat) : ∀ (l o : List Int), ∀ x ∈ l.foldl (vis W xs ys n) o, x ∈ o ∨ x ∈ l ∨ ∃ y ∈ l.foldl (vis W xs ys n) o, x ∈ ptrs W xs ys y
  | [], o, x, hx => .inl hx
  | b :: l, o, x, hx => by
    simp only [List.foldl_cons] at hx ⊢
    rcases fold_from W xs ys n l _ x hx with h | h | h
    · rcases vis_from W xs ys n o b x h with h | h | ⟨y, hy, h⟩
      · exact .inl h
      · exact .inr (.inl (h ▸ List.mem_cons_self))
      · exact .inr (.inr ⟨y, (fold_pre W xs ys n l _).subset hy, h⟩)
    · exact .inr (.inl (List.mem_cons_of_mem _ h))
    · exact .inr (.inr h)
end
/-- Whether one of a row is a root, or a pointer of the first ones. -/
def frB (W : Int) (xs ys l r : List Int) (i k : Int) : Bool := hasB l (ix r i) || (r.take k.toNat).any fun y => hasB (ptrs W xs ys y) (ix r i)
theorem any_next {r : List Int} {p : Int → Bool} (h0 : 0 ≤ k) (h : k < (r.length : Int)) : (r.take (Int.toNat (k + 1))).any p = ((r.take (Int.toNat k)).any p || p (ix r k)) := by
  rw [take_next h0 h, List.any_append]; simp
section
variable {r : List Int}
theorem fr_0 : hasB l (ix r i) = frB W xs ys l r i 0 := by simp [frB]
theorem fr_yes (h0 : 0 ≤ k) (h : k < (r.length : Int)) (h1 : frB W xs ys l r i k = true) : true = frB W xs ys l r i (k + 1) := by
  unfold frB at *
  rw [any_next h0 h, ← Bool.or_assoc, h1]; rfl
theorem fr_no (h0 : 0 ≤ k) (h : k < (r.length : Int)) (h1 : frB W xs ys l r i k = false) : hasB (ptrs W xs ys (ix r k)) (ix r i) = frB W xs ys l r i (k + 1) := by
  unfold frB at *
  rw [any_next h0 h, ← Bool.or_assoc, h1]; rfl
theorem fr_end (h : (r.length : Int) ≤ k) : frB W xs ys l r i k = frB W xs ys l r i (r.length : Int) := by
  unfold frB
  rw [List.take_of_length_le (by omega), List.take_of_length_le (by omega)]
end
theorem fr_all (h0 : 0 ≤ i) : ((rch W xs ys l).length : Int) ≤ i ∨ frB W xs ys l (rch W xs ys l) i ((rch W xs ys l).length : Int) = true := by
  by_cases h : ((rch W xs ys l).length : Int) ≤ i
  · exact .inl h
  · refine .inr ?_
    unfold frB
    rw [show (Int.toNat ((rch W xs ys l).length : Int)) = (rch W xs ys l).length by omega, List.take_length]
    rcases fold_from W xs ys fuelN l [] (ix (rch W xs ys l) i) (ix_mem (l := rch W xs ys l) h0 (by omega)) with h | h | ⟨y, hy, h⟩
    · cases h
    · rw [show hasB l (ix (rch W xs ys l) i) = true from decide_eq_true h]; rfl
    · rw [Bool.or_eq_true]
      exact .inr (List.any_eq_true.2 ⟨y, hy, decide_eq_true h⟩)

/-! Nothing real is left out. -/
theorem fold_mem {v : Int} (hr : rlB W xs ys v = true) : ∀ (l o : List Int), v ∈ l → v ∈ l.foldl (vis W xs ys (n + 1)) o
  | [], o, h => by cases h
  | b :: l, o, h => by
    simp only [List.foldl_cons]
    rcases List.mem_cons.1 h with rfl | h
    · exact (fold_pre W xs ys (n + 1) l _).subset (vis_mem hr)
    · exact fold_mem hr l _ h
mutual
theorem vis_cl (W : Int) (xs ys : List Int) : ∀ (n : Nat) (o : List Int) (a : Int), Vk W xs ys o → fre W xs ys o < (n : Int) → ∀ x ∈ vis W xs ys n o a, x ∉ o → ∀ v ∈ ptrs W xs ys x, rlB W xs ys v = true → v ∈ vis W xs ys n o a
  | 0, o, a, _, h, x, hx, hn => absurd hx hn
  | n + 1, o, a, hv, h, x, hx, hn => by
    unfold vis at hx ⊢
    intro v hvx hr
    split at hx
    · rename_i hc
      rw [if_pos hc]
      have h1 := fre_lt hc.1 hc.2
      have h2 := fre_0 (W := W) (xs := xs) (ys := ys) (o := o ++ [a])
      obtain ⟨m, rfl⟩ : ∃ m, n = m + 1 := ⟨n - 1, by omega⟩
      by_cases e : x = a
      · subst e; exact fold_mem hr _ _ hvx
      · exact fold_cl W xs ys (m + 1) _ _ (vk_add hv hc.1 hc.2) (by omega) x hx (fun hq => (List.mem_append.1 hq).elim hn (fun hq => e (List.mem_singleton.1 hq))) v hvx hr
    · exact absurd hx hn
theorem fold_cl (W : Int) (xs ys : List Int) (n : Nat) : ∀ (l o : List Int), Vk W xs ys o → fre W xs ys o < (n : Int) → ∀ x ∈ l.foldl (vis W xs ys n) o, x ∉ o → ∀ v ∈ ptrs W xs ys x, rlB W xs ys v = true → v ∈ l.foldl (vis W xs ys n) o
  | [], o, _, _, x, hx, hn => absurd hx hn
  | b :: l, o, hv, h, x, hx, hn => by
    simp only [List.foldl_cons] at hx ⊢
    intro v hvx hr
    obtain ⟨g1, g2⟩ := vis_ok W xs ys n o b hv
    by_cases e : x ∈ vis W xs ys n o b
    · exact (fold_pre W xs ys n l _).subset (vis_cl W xs ys n o b hv h x e hn v hvx hr)
    · exact fold_cl W xs ys n l _ g1 (by omega) x hx e v hvx hr
end
theorem cl_ix (hW : 0 ≤ W ∧ W ≤ 4096) (h0 : 0 ≤ i) (hi : i < ((rch W xs ys l).length : Int)) (k0 : 0 ≤ k) : ((ptrs W xs ys (ix (rch W xs ys l) i)).length : Int) ≤ k ∨ rlB W xs ys (ix (ptrs W xs ys (ix (rch W xs ys l) i)) k) = false ∨ hasB (rch W xs ys l) (ix (ptrs W xs ys (ix (rch W xs ys l) i)) k) = true := by
  by_cases hk : ((ptrs W xs ys (ix (rch W xs ys l) i)).length : Int) ≤ k
  · exact .inl hk
  · cases hr : rlB W xs ys (ix (ptrs W xs ys (ix (rch W xs ys l) i)) k) with
    | false => exact .inr (.inl rfl)
    | true => exact .inr (.inr (decide_eq_true (fold_cl W xs ys fuelN l [] (vk_nil hW) (fre_fuel hW) _ (ix_mem (l := rch W xs ys l) h0 hi) (by simp) _ (ix_mem (l := ptrs W xs ys (ix (rch W xs ys l) i)) k0 (by omega)) hr)))
mutual
theorem vis_rl (W : Int) (xs ys : List Int) : ∀ (n : Nat) (o : List Int) (a : Int), (∀ x ∈ o, rlB W xs ys x = true) → ∀ x ∈ vis W xs ys n o a, rlB W xs ys x = true
  | 0, o, a, h => h
  | n + 1, o, a, h => by
    unfold vis
    split
    · rename_i hc
      exact fold_rl W xs ys n _ _ (fun x hx => (List.mem_append.1 hx).elim (h x) (fun hx => by rw [List.mem_singleton.1 hx]; exact hc.1))
    · exact h
theorem fold_rl (W : Int) (xs ys : List Int) (n : Nat) : ∀ (l o : List Int), (∀ x ∈ o, rlB W xs ys x = true) → ∀ x ∈ l.foldl (vis W xs ys n) o, rlB W xs ys x = true
  | [], o, h => h
  | b :: l, o, h => fold_rl W xs ys n l _ (vis_rl W xs ys n o b h)
end
theorem root_ix (h0 : 0 ≤ i) : (l.length : Int) ≤ i ∨ (rlB W xs ys (ix l i) = true ∧ hasB (rch W xs ys l) (ix l i) = true) ∨ (rlB W xs ys (ix l i) = false ∧ hasB (rch W xs ys l) (ix l i) = false) := by
  by_cases h : (l.length : Int) ≤ i
  · exact .inl h
  · refine .inr ?_
    cases hr : rlB W xs ys (ix l i) with
    | true => exact .inl ⟨rfl, decide_eq_true (fold_mem (n := 8192) hr l [] (ix_mem h0 (by omega)))⟩
    | false =>
      refine .inr ⟨rfl, decide_eq_false (fun hm => ?_)⟩
      have := fold_rl W xs ys fuelN l [] (fun x hx => by cases hx) _ hm
      rw [hr] at this; cases this
end
end Go.Proofs.Ytlapjlbmhaalbaa.X
