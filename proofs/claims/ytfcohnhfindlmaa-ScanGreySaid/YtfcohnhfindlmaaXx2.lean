/- A call of yield: a round of the loop that the iterator serves, in place. -/
import Derived.Test.YtfcohnhfindlmaaXx1
namespace Go.Proofs.Ytfcohnhfindlmaa.X
open Go Go.RowKit

theorem Inv.poke {Γ : Gh} {ρ : Env} {nx : Nat} {mem : Mem} {w : World} (h : Inv Γ ρ nx mem w) {l : Nat} (ho : ¬ Owned ρ mem l) (hn : Γ l = none) (o : Obj) : Inv Γ ρ nx mem (w.putObj l o) where
  pub b cs hc := by
    obtain ⟨E, fz, e⟩ := h.pub b cs hc
    have hbl : b ≠ l := fun e => by rw [e, hn] at hc; cases hc
    exact ⟨E, fz, by rw [World.putObj_heap_other hbl, e]⟩
  priv r B hB := by
    obtain ⟨h1, h2, h3⟩ := h.priv r B hB
    exact ⟨h1.move (Gh.le_refl _) (Env.same_refl nx ρ) h2 h3 (fun b hb => ⟨World.putObj_heap_other (fun e => ho ⟨r, B, hB, e ▸ hb⟩), id⟩), h2, h3⟩
  inj := h.inj
theorem MkOk.poke {lo : Nat} {w : World} {ds : List Deferred} {l : Nat} {q : Loop} (h : MkOk lo w ds) (hl : w.heap[l]? = some (.loop q)) (o : Obj) : MkOk lo (w.putObj l o) ds := by
  obtain ⟨h0, bs, h1, h2, h3⟩ := h
  refine ⟨by rw [World.putObj_size]; exact h0, bs, h1, h2, fun b hb => ?_⟩
  obtain ⟨h4, h5⟩ := h3 b hb
  have hbl : b ≠ l := fun e => by rw [e, hl] at h5; cases h5
  exact ⟨h4, by rw [World.putObj_heap_other hbl, h5]⟩

/-- A round's frame: the loop's, with what yield was handed. -/
def roundFr (ps : List Nat) (xs : List SV) (fr : Fr) : Fr := (ps.zip xs).foldl (fun f x => (x.1, x.2) :: f) fr
theorem roundFr_den {Γ : Gh} {ρ : Env} {nx N : Nat} : ∀ (ps : List Nat) (xs : List SV) (vs : List Value) (fr : Fr) (tmps : Array Value), DenL Γ ρ xs vs → bdL nx xs = true → (∀ t ∈ ps, t < N) → tmps.size = N → (∀ d s, fnd fr d = some s → Den Γ ρ s (tmps.getD d undef) ∧ s.bd nx = true) →
    ((ps.zip vs).foldl (fun f x => f.setIfInBounds x.1 x.2) tmps).size = N ∧ ∀ d s, fnd (roundFr ps xs fr) d = some s → Den Γ ρ s (((ps.zip vs).foldl (fun f x => f.setIfInBounds x.1 x.2) tmps).getD d undef) ∧ s.bd nx = true
  | [], _, _, fr, tmps, _, _, _, hz, h => ⟨hz, h⟩
  | t :: ps, [], vs, fr, tmps, hd, _, _, hz, h => by
    simp only [DenL] at hd
    subst hd
    exact ⟨hz, h⟩
  | t :: ps, x :: xs, vs, fr, tmps, hd, hb, hp, hz, h => by
    simp only [DenL] at hd
    obtain ⟨v, vr, rfl, h1, h2⟩ := hd
    simp only [bdL, Bool.and_eq_true] at hb
    have ht : t < N := hp t (by simp)
    have := roundFr_den ps xs vr ((t, x) :: fr) (tmps.setIfInBounds t v) h2 hb.2 (fun u hu => hp u (by simp [hu])) (by simpa using hz) (fun d s hs => by
      rw [fnd_cons] at hs
      split at hs
      · rename_i e; subst e; cases hs
        have hz' : t < tmps.size := by rw [hz]; exact ht
        exact ⟨by simpa [hz'] using h1, hb.1⟩
      · rename_i e
        obtain ⟨k1, k2⟩ := h d s hs
        exact ⟨by simpa [Array.getElem?_setIfInBounds_ne e] using k1, k2⟩)
    simpa [roundFr] using this

def XE.jump : XE → Option Code
  | .normal => none
  | .ret => some .ret
  | .exit i => some (.exit i)
  | .goto l => some (.goto l)

section
variable {rd : Option Nat} {P : Program} {T : Tab} {N n0 : Nat} {ops : Array Oper}
/-- Behind a round: yield's answer, and the record. -/
def YieldK (rd : Option Nat) (P : Program) (N n0 : Nat) (ops : Array Oper) (l : List Oper) (K : St → Prop) (s : St) (o : Oper) (r nb : Nat) (q : Lp) : XE → St → Prop := fun e s2 =>
  ∃ fr', putS N s.fr o.dst (.bool e.jump.isNone) = some fr' ∧ XO rd P N n0 ops l K ⟨fr', (r, .lp nb { q with left := e.jump }) :: s2.mem, s2.nx⟩
theorem xo_yield {o : Oper} {l : List Oper} {K : St → Prop} {s : St} {g : Operand} {as : List Operand} {ats : Array TypeId} {lq r nb : Nat} {q : Lp} (hg : gd ops s.fr o.guard = some true) (ho : o.op = .call ⟨.value g, ⟨as⟩, ats⟩) (hy : evo s.fr g = yv lq)
    (hm : fnd s.mem r = some (.lp nb q)) (hql : q.l = lq) (hleft : q.left = none) (hps : q.ps.size = as.length) (hpN : ∀ t ∈ q.ps.toList, t < q.N)
    (h : XW (some lq) P q.N s.nx q.assign (fun e s1 => e = .normal ∧ XW (some lq) P q.N s.nx q.body (YieldK rd P N n0 ops l K s o r nb q) s1) ⟨roundFr q.ps.toList (as.map (evo s.fr)) q.fr, del s.mem r, s.nx⟩) : XO rd P N n0 ops (o :: l) K s := by
  intro Γ ρ w a Q hn hok hQ
  refine wpListIn_step fun K' hK' => ?_
  rw [gd_sound hok.frame hg, if_pos rfl]
  obtain ⟨⟨b1, b2, tmps, dfr, b3, b4, b5⟩, hrnx, hnb⟩ := hok.inv.priv r _ hm
  have hnb : nb ≤ s.nx := Nat.le_of_ble_eq_true hnb
  rw [hql] at b1 b2 b3
  obtain ⟨g1, _⟩ := evo_den hok.frame g
  rw [hy] at g1
  simp only [Den] at g1
  have hev : a.eval g = .func (.yield lq) #[] #[] := g1.1
  obtain ⟨m1, m2⟩ := mapDen hok.frame as
  have hlw : lq < w.heap.size := (Array.getElem?_eq_some_iff.1 b3).1
  have hrun : (execOp a.eval o).run P w = .ok (.round lq q.fn ((q.ps.zip (as.map a.eval).toArray).foldl (fun tmps (t, a) => tmps.setIfInBounds t a) tmps) q.assign q.body) w := by
    have hy := run_yield (P := P) (args := (as.map a.eval).toArray) b3 (by simp [Lp.record, hps])
    simp only [execOp, ho, resolve, hev, Deferred.ofValue, Sem.run_bind, Sem.run_pure, Result.andThen_ok, invoke]
    simpa [Lp.record] using hy
  refine ⟨fun _ _ => trivial, ?_⟩
  rw [Oper.semAt_eq _ _ _ (fun c hc => by rw [ho] at hc; cases hc), hrun, Oper.uponIn_round]
  refine ⟨(fun hd => by cases hd), roundIn_of_wpIn trivial ?_⟩
  -- what belongs to nobody
  have hno : ¬ Owned ρ (del s.mem r) lq := by
    rintro ⟨r', C, hC, hc⟩
    rw [fnd_del] at hC
    split at hC
    · cases hC
    · rename_i hne; exact hne (hok.inv.inj r' r lq C _ hC hm hc b1)
  have hfr := roundFr_den q.ps.toList (as.map (evo s.fr)) (as.map a.eval) q.fr tmps m1 m2 hpN b4 (fun d x hd => ⟨(b5 d x hd).1, SV.bd_mono hnb x (b5 d x hd).2⟩)
  have htm : (q.ps.zip (as.map a.eval).toArray).foldl (fun tmps (t, a) => tmps.setIfInBounds t a) tmps = (q.ps.toList.zip (as.map a.eval)).foldl (fun f x => f.setIfInBounds x.1 x.2) tmps := by
    rw [← Array.foldl_toList]; simp
  rw [htm]
  have hok0 : Ok Γ ρ q.N ⟨roundFr q.ps.toList (as.map (evo s.fr)) q.fr, del s.mem r, s.nx⟩ w { tmps := (q.ps.toList.zip (as.map a.eval)).foldl (fun f x => f.setIfInBounds x.1 x.2) tmps, defers := [] } :=
    ⟨hok.inv.del r, MkOk.nil hok.marks.1, hfr.1, hfr.2⟩
  refine wpIn_mono (h Γ ρ w _ (Nat.le_refl _) hok0) ?_
  rintro e a1 w1 ⟨xe, Γ1, ρ1, s1, rfl, hok1, hnx1, rfl, hbody⟩
  have hl1 : w1.heap[lq]? = some (.loop (q.record tmps dfr)) := by rw [hnx1.stp.keep lq hlw hno, b3]
  have hno1 : ¬ Owned ρ1 s1.mem lq := fun h => (hnx1.stp.own lq h).elim hno (fun h => by omega)
  have hg1 : Γ1 lq = none := by
    cases hq : Γ1 lq with
    | none => rfl
    | some cs =>
      rcases hnx1.new lq (by rw [hq]; simp) with h | h | h
      · exact absurd b2 h
      · exact absurd h hno
      · omega
  refine ⟨_, run_beginRound hl1 (by simp [Lp.record, hleft]), ?_⟩
  have hok2 : Ok Γ1 ρ1 q.N s1 (w1.putObj lq (.loop { q.record tmps dfr with state := .busy })) a1 := ⟨hok1.inv.poke hno1 hg1 _, hok1.marks.poke hl1 _, hok1.frame⟩
  refine wpIn_mono (hbody Γ1 ρ1 _ a1 hnx1.nx hok2) ?_
  rintro e a2 w3 ⟨xe, Γ2, ρ2, s2, rfl, hok3, hnx3, fr', hput, hx⟩
  have hlw1 : lq < w1.heap.size := (Array.getElem?_eq_some_iff.1 hl1).1
  have hl3 : w3.heap[lq]? = some (.loop { q.record tmps dfr with state := .busy }) := by
    rw [hnx3.stp.keep lq (by rw [World.putObj_size]; exact hlw1) hno1]; exact World.putObj_heap_same hlw1
  have hno3 : ¬ Owned ρ2 s2.mem lq := fun h => (hnx3.stp.own lq h).elim hno1 (fun h => by rw [World.putObj_size] at h; omega)
  have hg3 : Γ2 lq = none := by
    cases hq : Γ2 lq with
    | none => rfl
    | some cs =>
      rcases hnx3.new lq (by rw [hq]; simp) with h | h | h
      · exact absurd hg1 h
      · exact absurd h hno1
      · rw [World.putObj_size] at h; omega
  have hend := run_endRound (P := P) xe.jump hl3
  have hlw3 : lq < w3.heap.size := (Array.getElem?_eq_some_iff.1 hl3).1
  have hle : Γ.le Γ2 := Gh.le_trans hnx1.le hnx3.le
  have hsame : Env.same s.nx ρ ρ2 := fun x hx => ⟨(hnx3.same x hx).1.trans (hnx1.same x hx).1, (hnx3.same x hx).2.trans (hnx1.same x hx).2⟩
  have hnx : s.nx ≤ s2.nx := hnx3.nx
  generalize hw4 : w3.putObj lq (.loop { ({ q.record tmps dfr with state := .busy } : Loop) with state := if xe.jump.isNone then .ready else .done, pending := xe.jump }) = w4 at hend
  have hsz4 : w4.heap.size = w3.heap.size := by rw [← hw4]; exact World.putObj_size
  have hot4 : ∀ b, b ≠ lq → w4.heap[b]? = w3.heap[b]? := fun b hb => by rw [← hw4]; exact World.putObj_heap_other hb
  have hinv4 : Inv Γ2 ρ2 s2.nx ((r, .lp nb { q with left := xe.jump }) :: s2.mem) w4 := by
    have hi := hok3.inv.poke hno3 hg3 (.loop { ({ q.record tmps dfr with state := .busy } : Loop) with state := if xe.jump.isNone then .ready else .done, pending := xe.jump })
    rw [hw4] at hi
    refine ⟨hi.pub, fun r' C hC => ?_, fun r1 r2 b C1 C2 h1 h2 e1 e2 => ?_⟩
    · rw [fnd_cons] at hC
      split at hC
      · rename_i e; subst e; cases hC
        refine ⟨⟨by rw [(hsame r hrnx).1, b1]; exact congrArg some hql.symm, by show Γ2 q.l = none; rw [hql]; exact hg3, tmps, dfr, ?_, b4, fun d x hd => ⟨Den.ext hle x _ (Env.same_mono hnb hsame) (b5 d x hd).2 (b5 d x hd).1, (b5 d x hd).2⟩⟩, Nat.lt_of_lt_of_le hrnx hnx, Nat.ble_eq_true_of_le (Nat.le_trans hnb hnx)⟩
        show w4.heap[q.l]? = _
        rw [hql, ← hw4, World.putObj_heap_same hlw3]
        rfl
      · exact hi.priv r' C hC
    · rw [fnd_cons] at h1 h2
      have hr2 : ρ2.blk r = some lq := by rw [(hsame r hrnx).1, b1]
      split at h1 <;> split at h2
      · omega
      · rename_i e e'; subst e; rw [hr2] at e1; cases e1; exact absurd ⟨r2, C2, h2, e2⟩ hno3
      · rename_i e e'; subst e'; rw [hr2] at e2; cases e2; exact absurd ⟨r1, C1, h1, e1⟩ hno3
      · exact hi.inj r1 r2 b C1 C2 h1 h2 e1 e2
  have hstp : Stp ρ s.mem w ρ2 ((r, .lp nb { q with left := xe.jump }) :: s2.mem) w4 := by
    have hdel : ∀ b, Owned ρ (del s.mem r) b → Owned ρ s.mem b := by
      rintro b ⟨r', C, hC, hb⟩
      rw [fnd_del] at hC
      split at hC
      · cases hC
      · exact ⟨r', C, hC, hb⟩
    refine ⟨?_, ?_, ?_, ?_, fun b hb ho => ?_, fun b => ?_⟩
    · rw [← hw4]; exact hnx3.stp.os.trans hnx1.stp.os
    · rw [← hw4]; exact hnx3.stp.tape.trans hnx1.stp.tape
    · rw [← hw4]; exact hnx3.stp.output.trans hnx1.stp.output
    · rw [hsz4]; have := hnx3.stp.size; rw [World.putObj_size] at this; exact Nat.le_trans hnx1.stp.size this
    · have hbl : b ≠ lq := fun e => ho ⟨r, _, hm, e ▸ b1⟩
      rw [hot4 b hbl, hnx3.stp.keep b (by rw [World.putObj_size]; exact Nat.lt_of_lt_of_le hb hnx1.stp.size) (fun h => (hnx1.stp.own b h).elim (fun h => ho (hdel b h)) (fun h => by omega)), World.putObj_heap_other hbl]
      exact hnx1.stp.keep b hb (fun h => ho (hdel b h))
    · rintro ⟨r', C, hC, hb⟩
      rw [fnd_cons] at hC
      split at hC
      · rename_i e; subst e
        rw [(hsame r hrnx).1] at hb
        exact .inl ⟨r, _, hm, hb⟩
      · rcases hnx3.stp.own b ⟨r', C, hC, hb⟩ with h | h
        · exact (hnx1.stp.own b h).imp (hdel b) id
        · rw [World.putObj_size] at h; exact .inr (Nat.le_trans hnx1.stp.size h)
  have hnew : ∀ b, Γ2 b ≠ none → Γ b ≠ none ∨ Owned ρ s.mem b ∨ w.heap.size ≤ b := fun b hb => by
    have hdel : ∀ b, Owned ρ (del s.mem r) b → Owned ρ s.mem b := by
      rintro b ⟨r', C, hC, hb⟩
      rw [fnd_del] at hC
      split at hC
      · cases hC
      · exact ⟨r', C, hC, hb⟩
    rcases hnx3.new b hb with h | h | h
    · rcases hnx1.new b h with h | h | h
      · exact .inl h
      · exact .inr (.inl (hdel b h))
      · exact .inr (.inr h)
    · exact .inr ((hnx1.stp.own b h).imp (hdel b) id)
    · rw [World.putObj_size] at h; exact .inr (.inr (Nat.le_trans hnx1.stp.size h))
  have hok4 : Ok Γ2 ρ2 N ⟨fr', (r, .lp nb { q with left := xe.jump }) :: s2.mem, s2.nx⟩ w4 (a.put o.dst (.bool xe.jump.isNone)) :=
    ⟨hinv4, by rw [put_defers]; exact hok.marks.step hok.inv hstp hle, putS_sound hput (hok.frame.grow hle hsame hnx) (by simp only [Den]) rfl⟩
  have hgo : K' (a.put o.dst (.bool xe.jump.isNone)) w4 := hK' _ _ (hx Γ2 ρ2 w4 _ Q (Nat.le_trans hn hnx) hok4 (fun Γ₂ ρ₂ s₂ w₂ a₂ k1 k2 k3 => hQ Γ₂ ρ₂ s₂ w₂ a₂ k1
    (Nxt.trans (s₁ := ⟨fr', (r, .lp nb { q with left := xe.jump }) :: s2.mem, s2.nx⟩) ⟨hstp, hle, Env.same_mono hn hsame, Nat.le_trans hn hnx, hnew⟩ k2) k3))
  cases xe with
  | normal => exact ⟨_, _, hend, hgo⟩
  | ret => exact ⟨_, _, hend, hgo⟩
  | exit i => exact ⟨_, _, hend, hgo⟩
  | goto t => exact ⟨_, _, hend, hgo⟩
end
end Go.Proofs.Ytfcohnhfindlmaa.X
