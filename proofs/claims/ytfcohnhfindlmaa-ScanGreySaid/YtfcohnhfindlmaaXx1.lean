/- A range over a function: the statement (a round's record among the private blocks), and a call of yield. -/
import Derived.Test.YtfcohnhfindlmaaXq
namespace Go.Proofs.Ytfcohnhfindlmaa.X
open Go Go.RowKit

/-- The function that a loop hands to its iterator. -/
abbrev yv (l : Nat) : SV := .raw (.func (.yield l) #[] #[])

theorem Inv.bare {Γ : Gh} {ρ : Env} {nx : Nat} {mem : Mem} {w : World} (h : Inv Γ ρ nx mem w) (o : Obj) : Inv Γ ρ nx mem (w.alloc o) where
  pub b cs hb := by
    obtain ⟨E, fz, e⟩ := h.pub b cs hb
    exact ⟨E, fz, by rw [heap_old w o b (h.lt hb), e]⟩
  priv r B hB := by
    obtain ⟨h1, h2, h3⟩ := h.priv r B hB
    exact ⟨h1.move (Gh.le_refl _) (Env.same_refl nx ρ) h2 h3 (fun b hb => ⟨heap_old w o b (h1.lt hb), id⟩), h2, h3⟩
  inj := h.inj
theorem Inv.none_of {Γ : Gh} {ρ : Env} {nx : Nat} {mem : Mem} {w : World} (h : Inv Γ ρ nx mem w) {b : Nat} (hb : w.heap.size ≤ b) : Γ b = none := by
  cases hq : Γ b with
  | none => rfl
  | some cs => have := h.lt hq; omega
/-- A private block is taken away, whatever lies there then. -/
theorem Inv.turn {Γ : Gh} {ρ : Env} {nx : Nat} {mem : Mem} {w : World} (h : Inv Γ ρ nx mem w) {r l : Nat} {B : Blk} (hr : fnd mem r = some B) (hb : ρ.blk r = some l) (hn : Γ l = none) (o : Obj) : Inv Γ ρ nx (X.del mem r) (w.putObj l o) where
  pub b cs hc := by
    obtain ⟨E, fz, e⟩ := h.pub b cs hc
    have hbl : b ≠ l := fun e => by rw [e, hn] at hc; cases hc
    exact ⟨E, fz, by rw [World.putObj_heap_other hbl, e]⟩
  priv r' B' hB := by
    rw [fnd_del] at hB
    split at hB
    · cases hB
    · rename_i hne
      obtain ⟨h1, h2, h3⟩ := h.priv r' B' hB
      exact ⟨h1.move (Gh.le_refl _) (Env.same_refl nx ρ) h2 h3 (fun b hb' => ⟨World.putObj_heap_other (fun e => hne (h.inj r' r b B' B hB hr hb' (e ▸ hb))), id⟩), h2, h3⟩
  inj r1 r2 b B1 B2 h1 h2 := by
    rw [fnd_del] at h1 h2
    split at h1 <;> split at h2 <;> first | (cases h1; done) | (cases h2; done) | exact h.inj r1 r2 b B1 B2 h1 h2

section
variable {P : Program} {T : Tab} {N n0 : Nat} {ops : Array Oper}
/-- A range over a function (not within another's round). -/
theorem xw_range {g : Operand} {ps : Array Tmp} {assign body : Code} {K : XE → St → Prop} {s : St} {f : Nat} {fst cap : List SV} (hg : evo s.fr g = .fn f fst cap)
    (h : ∀ l fn B, B = (⟨l, none, s.fr, N, fn, ps, assign, body⟩ : Lp) → XCall P f (fst ++ [yv l] ++ cap) ((s.nx, .lp s.nx B) :: s.mem) (s.nx + 1) fun _ mem' nx' =>
      ∃ q, fnd mem' s.nx = some (.lp s.nx q) ∧ (q.left = none → K .normal ⟨s.fr, del mem' s.nx, nx'⟩) ∧ (∀ c, q.left = some c → XW none P N n0 c K ⟨s.fr, del mem' s.nx, nx'⟩)) :
    XW none P N n0 (.rangeFunc g ps assign body) K s := by
  intro Γ ρ w a hn hok
  refine wpIn_rangeFunc fun fn _ => ?_
  obtain ⟨g1, g1b⟩ := evo_den hok.frame g
  rw [hg] at g1 g1b
  simp only [Den] at g1
  obtain ⟨va, vc, g2, g3, g4⟩ := g1
  simp only [SV.bd, Bool.and_eq_true] at g1b
  obtain ⟨henter, hcall⟩ := h (w.heap.size + 1) fn _ rfl
  have hi1 := hok.inv.bare (.deferred (some []))
  have hsz : (w.alloc (.deferred (some []))).heap.size = w.heap.size + 1 := by simp
  let rec' : Loop := { state := .ready, pending := none, fn := fn, tmps := a.tmps, params := ps, assign := assign, body := body, defers := w.heap.size }
  let w1 := w.alloc (.deferred (some []))
  let w2 := w1.alloc (.loop rec')
  let ρ1 := ρ.add s.nx (some w1.heap.size) none
  let B : Lp := ⟨w.heap.size + 1, none, s.fr, N, fn, ps, assign, body⟩
  have hs1 : Env.same s.nx ρ ρ1 := Env.add_same ρ s.nx _ _
  have hl : ρ1.blk s.nx = some (w.heap.size + 1) := by rw [← hsz]; exact Env.add_blk _ _ _ _
  have hB : BlkOk Γ ρ1 w2 s.nx (.lp s.nx B) := by
    refine ⟨hl, hok.inv.none_of (by show w.heap.size ≤ w.heap.size + 1; omega), a.tmps, w.heap.size, ?_, hok.frame.size, fun d x hd => ?_⟩
    · have := World.alloc_heap_new w1 (.loop rec')
      rw [show w1.heap.size = w.heap.size + 1 from hsz] at this
      exact this
    · obtain ⟨k1, k2⟩ := hok.frame.slot d x hd
      exact ⟨Den.ext (Gh.le_refl _) x _ hs1 k2 k1, k2⟩
  have hi2 : Inv Γ ρ1 (s.nx + 1) ((s.nx, .lp s.nx B) :: s.mem) w2 := hi1.alloc (.loop rec') none (.lp s.nx B) hB (Nat.ble_eq_true_of_le (Nat.le_succ _))
  have hden : DenL Γ ρ1 (fst ++ [yv (w.heap.size + 1)] ++ cap) (va.toList ++ [Value.func (.yield (w.heap.size + 1)) #[] #[]] ++ vc.toList) :=
    ((DenL.ext (Gh.le_refl _) _ _ hs1 g1b.1 g3).append (by simp only [DenL, Den]; exact ⟨_, _, rfl, ⟨rfl, rfl⟩, rfl⟩)).append (DenL.ext (Gh.le_refl _) _ _ hs1 g1b.2 g4)
  have hbd : bdL (s.nx + 1) (fst ++ [yv (w.heap.size + 1)] ++ cap) = true :=
    bdL_append (bdL_append (bdL_mono (Nat.le_succ _) _ g1b.1) rfl) (bdL_mono (Nat.le_succ _) _ g1b.2)
  have hinv : (invoke (.fn (.func f) vc) (va ++ #[Value.func (.yield (w.heap.size + 1)) #[] #[]])).run P w2 = .ok (.enter f (va.toList ++ [Value.func (.yield (w.heap.size + 1)) #[] #[]] ++ vc.toList).toArray) w2 := by
    have he := henter.run (va.toList ++ [Value.func (.yield (w.heap.size + 1)) #[] #[]] ++ vc.toList).toArray w2
    simp only [invoke]
    rw [← he]
    congr 2
    apply Array.toList_inj.1
    simp
  refine ⟨w.heap.size + 1, _, w2, { target := .fn (.func f) vc, args := va ++ #[Value.func (.yield (w.heap.size + 1)) #[] #[]] }, w2, f, _, w2, run_enterLoop_outer fn a.tmps ps assign body, ?_, fun _ _ => trivial, hinv, (fun hd => by cases hd), calls_fnc ?_⟩
  · simp only [resolve, g2, Deferred.ofValue]
    rw [Sem.run_pure]
    simp [Act.eval]
  refine (hcall Γ ρ1 w2 _ hi2 hden hbd).mono ?_
  rintro e w3 ⟨v, sv, Γ', ρ', mem', nx', rfl, h1, h2, h3, h4, h5, h6, h7, h8, q, hq, hk1, hk2⟩
  obtain ⟨⟨b1, b2, tmps, dfr, b3, b4, b5⟩, _, _⟩ := h1.priv s.nx _ hq
  have hql : q.l = w.heap.size + 1 := by
    have := (h6 s.nx (Nat.lt_succ_self _)).1
    rw [hl, b1] at this
    exact Option.some.inj this
  have hbusy : (q.record tmps dfr).state ≠ .busy := by
    simp only [Lp.record]; split <;> simp
  rw [hql] at b3 b2 b1
  have hnew : ∀ c, Owned ρ1 ((s.nx, .lp s.nx B) :: s.mem) c → Owned ρ s.mem c ∨ w.heap.size ≤ c := by
    rintro c ⟨r, C, hC, hc⟩
    rw [fnd_cons] at hC
    split at hC
    · rename_i e; subst e; rw [hl] at hc; cases hc; exact .inr (by omega)
    · rw [(hs1 r (hok.inv.priv r C hC).2.1).1] at hc
      exact .inl ⟨r, C, hC, hc⟩
  let w4 := w3.putObj (w.heap.size + 1) (.loop { q.record tmps dfr with state := .exhausted })
  have hsz2 : w2.heap.size = w.heap.size + 2 := by
    show (w1.alloc (.loop rec')).heap.size = _
    simp [w1]
  have hkeep0 : ∀ b, b < w.heap.size → w2.heap[b]? = w.heap[b]? := fun b hb => by
    rw [show w2 = w1.alloc (.loop rec') from rfl, heap_old w1 _ b (by rw [show w1.heap.size = w.heap.size + 1 from hsz]; omega)]
    exact heap_old w _ b hb
  have hstp : Stp ρ s.mem w ρ' (del mem' s.nx) w4 := by
    refine ⟨h4.os, h4.tape, h4.output, ?_, fun b hb ho => ?_, fun b => ?_⟩
    · have := h4.size
      rw [hsz2] at this
      show w.heap.size ≤ (w3.putObj _ _).heap.size
      rw [World.putObj_size]; omega
    · show (w3.putObj _ _).heap[b]? = _
      rw [World.putObj_heap_other (by omega), h4.keep b (by rw [hsz2]; omega) (fun ho' => (hnew b ho').elim ho (fun h => by omega)), hkeep0 b hb]
    · rintro ⟨r, C, hC, hb⟩
      rw [fnd_del] at hC
      split at hC
      · cases hC
      · rcases h4.own b ⟨r, C, hC, hb⟩ with h | h
        · exact hnew b h
        · rw [hsz2] at h; exact .inr (by omega)
  have hi4 : Inv Γ' ρ' nx' (del mem' s.nx) w4 := h1.turn hq b1 b2 _
  have hsame : Env.same s.nx ρ ρ' := fun r hr => by
    obtain ⟨k1, k2⟩ := h6 r (Nat.lt_succ_of_lt hr)
    obtain ⟨k3, k4⟩ := hs1 r hr
    exact ⟨k1.trans k3, k2.trans k4⟩
  have hmk : MkOk Γ'.lo w4 ({ target := .collected w.heap.size, args := #[] } :: a.defers) := by
    obtain ⟨m0, bs, m1, m2, m3⟩ := hok.marks
    have hge : w.heap.size ≤ w4.heap.size := hstp.size
    refine ⟨by rw [h5.2]; exact Nat.le_trans m0 hge, w.heap.size :: bs, by rw [m1]; rfl, ?_, fun b hb => ?_⟩
    · rw [List.nodup_cons]
      refine ⟨fun hm => ?_, m2⟩
      have := (Array.getElem?_eq_some_iff.1 (m3 _ hm).2).1
      omega
    · rcases List.mem_cons.1 hb with rfl | hb
      · refine ⟨by rw [h5.2]; exact m0, ?_⟩
        have hd : w2.heap[w.heap.size]? = some (.deferred (some [])) := by
          rw [show w2 = w1.alloc (.loop rec') from rfl, heap_old w1 _ _ (by rw [show w1.heap.size = w.heap.size + 1 from hsz]; omega)]
          exact World.alloc_heap_new w _
        show (w3.putObj _ _).heap[w.heap.size]? = _
        rw [World.putObj_heap_other (by omega), h4.keep _ (by rw [hsz2]; omega) (hi2.not_owned hd), hd]
      · obtain ⟨k1, k2⟩ := m3 b hb
        exact ⟨by rw [h5.2]; exact k1, by rw [hstp.keep b (Array.getElem?_eq_some_iff.1 k2).1 (hok.inv.not_owned k2), k2]⟩
  have hok4 : Ok Γ' ρ' N ⟨s.fr, del mem' s.nx, nx'⟩ w4 { a with defers := [{ target := .collected w.heap.size, args := #[] }] ++ a.defers } := by
    have hf := hok.frame.grow h5 hsame (Nat.le_trans (Nat.le_succ _) h7)
    exact ⟨hi4, hmk, hf.size, hf.slot⟩
  have hnxt : Nxt n0 Γ ρ s w Γ' ρ' ⟨s.fr, del mem' s.nx, nx'⟩ w4 := ⟨hstp, h5, Env.same_mono hn hsame, Nat.le_trans hn (Nat.le_trans (Nat.le_succ _) h7), fun b hb => by
    rcases h8 b hb with h | h | h
    · exact .inl h
    · exact .inr (hnew b h)
    · rw [hsz2] at h; exact .inr (.inr (by omega))⟩
  refine ⟨q.left, w4, run_endLoop b3 hbusy, ?_⟩
  cases hj : q.left with
  | none => exact ⟨.normal, Γ', ρ', _, rfl, hok4, hnxt, hk1 hj⟩
  | some c => exact wpIn_mono (hk2 c hj Γ' ρ' w4 _ hnxt.nx hok4) fun _ _ _ q => q.weaken hnxt
end
end Go.Proofs.Ytfcohnhfindlmaa.X
