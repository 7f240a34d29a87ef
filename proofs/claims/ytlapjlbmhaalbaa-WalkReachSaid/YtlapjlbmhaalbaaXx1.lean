/- A range over a function: the statement (a round's record among the private blocks), and a call of yield. -/
import Derived.Test.YtlapjlbmhaalbaaXq
namespace Go.Proofs.Ytlapjlbmhaalbaa.X
open Go Go.RowKit


/-- The function that a loop hands to its iterator. -/
abbrev yv (l : Nat) : SV := .raw (.func (.yield l) #[] #[])

theorem Inv.bare {Γ : Gh} {ρ : Env} {nx : Nat} {mem : Mem} {w : World} (h : Inv Γ ρ nx mem w) (o : Obj) : Inv Γ ρ nx mem (w.alloc o) where
  pub b cs hb := by
    obtain ⟨E, fz, e⟩ := h.pub b cs hb
    exact ⟨E, fz, by rw [heap_old w o b (h.lt hb), e]⟩
  priv r B hB := by
    obtain ⟨h1, h2, h3⟩ := h.priv r B hB
    exact ⟨h1.move (Gh.le_refl _) (Env.same_refl nx ρ) h2 h3 (fun b hb => ⟨heap_old w o b (h1.lt hb), id⟩), h2, h3⟩
  inj := h.inj
theorem Inv.none_of {Γ : Gh} {ρ : Env} {nx : Nat} {mem : Mem} {w : World} (h : Inv Γ ρ nx mem w) {b : Nat} (hb : w.heap.size ≤ b) : Γ b = none := by
  cases hq : Γ b with
  | none => rfl
  | some cs => have := h.lt hq; omega
/-- A private block is taken away, whatever lies there then. -/
theorem Inv.turn {Γ : Gh} {ρ : Env} {nx : Nat} {mem : Mem} {w : World} (h : Inv Γ ρ nx mem w) {r l : Nat} {B : Blk} (hr : fnd mem r = some B) (hb : ρ.blk r = some l) (hn : Γ l = none) (o : Obj) : Inv Γ ρ nx (X.del mem r) (w.putObj l o) where
  pub b cs hc := by
    obtain ⟨E, fz, e⟩ := h.pub b cs hc
    have hbl : b ≠ l := fun e => by rw [e, hn] at hc; cases hc
    exact ⟨E, fz, by rw [World.putObj_heap_other hbl, e]⟩
  priv r' B' hB := by
    rw [fnd_del] at hB
    split at hB
    · cases hB
    · rename_i hne
      obtain ⟨h1, h2, h3⟩ := h.priv r' B' hB
      exact ⟨h1.move (Gh.le_refl _) (Env.same_refl nx ρ) h2 h3 (fun b hb' => ⟨World.putObj_heap_other (fun e => hne (h.inj r' r b B' B hB hr hb' (e ▸ hb))), id⟩), h2, h3⟩
  inj r1 r2 b B1 B2 h1 h2 := by
    rw [fnd_del] at h1 h2
    split at h1 <;> split at h2 <;> first | (cases h1; done) | (cases h2; done) | exact h.inj r1 r2 b B1 B2 h1 h2

section
variable {P : Program} {T : Tab} {N n0 : Nat} {ops : Array Oper}
/-- A range over a function (not within another's round). -/
theorem xw_range {g : Operand} {ps : Array Tmp} {assign body : Code} {K : XE → St → Prop} {s : St} {f : Nat} {fst cap : List SV} (hg : evo s.fr g = .fn f fst cap)
    (h : ∀ l fn B, B = (⟨l, none, s.fr, N, fn, ps, assign, body⟩ : Lp) → XCall P f (fst ++ [yv l] ++ cap) ((s.nx, .lp s.nx B) :: s.mem) (s.nx + 1) fun _ mem' nx' =>
      ∃ q, fnd mem' s.nx = some (.lp s.nx q) ∧ (q.left = none → K .normal ⟨s.fr, del mem' s.nx, nx'⟩) ∧ (∀ c, q.left = some c → XW none P N n0 c K ⟨s.fr, del mem' s.nx, nx'⟩)) :
    XW none P N n0 (.rangeFunc g ps assign body) K s := by
  intro Γ ρ w a hn hok
  refine wpIn_rangeFunc fun fn _ => ?_
  obtain ⟨g1, g1b⟩ := evo_den hok.frame g
  rw [hg] at g1 g1b
  simp only [Den] at g1
  obtain ⟨va, vc, g2, g3, g4⟩ := g1
  simp only [SV.bd, Bool.and_eq_true] at g1b
  obtain ⟨henter, hcall⟩ := h (w.heap.size + 1) fn _ rfl
  have hi1 := hok.inv.bare (.deferred (some []))
  have hsz : (w.alloc (.deferred (some []))).heap.size = w.heap.size + 1 := by simp
  let rec' : Loop := { state := .ready, pending := none, fn := fn, tmps := a.tmps, params := ps, assign := assign, body := body, defers := w.heap.size }
  let w1 := w.alloc (.deferred (some []))
  let w2 := w1.alloc (.loop rec')
  let ρ1 := ρ.add s.nx (some w1.heap.size) none
  let B : Lp := ⟨w.heap.size + 1, none, s.fr, N, fn, ps, assign, body⟩
  have hs1 : Env.same s.nx ρ ρ1 := Env.add_same ρ s.nx _ _
  have hl : ρ1.blk s.nx = some (w.heap.size + 1) := by rw [← hsz]; exact Env.add_blk _ _ _ _
  have hB : BlkOk Γ ρ1 w2 s.nx (.lp s.nx B) := by
    refine ⟨hl, hok.inv.none_of (by show w.heap.size ≤ w.heap.size + 1; omega), a.tmps, w.heap.size, ?_, hok.frame.size, fun d x hd => ?_⟩
    · have := World.alloc_heap_new w1 (.loop rec')
      rw [show w1.heap.size = w.heap.size + 1 from hsz] at this
      exact this
    · obtain ⟨k1, k2⟩ := hok.frame.slot d x hd
      exact ⟨Den.ext (Gh.le_refl _) x _ hs1 k2 k1, k2⟩
  have hi2 : Inv Γ ρ1 (s.nx + 1) ((s.nx, .lp s.nx B) :: s.mem) w2 := hi1.alloc (.loop rec') none (.lp s.nx B) hB (Nat.ble_eq_true_of_le (Nat.le_succ _))
  have hden : DenL Γ ρ1 (fst ++ [yv (w.heap.size + 1)] ++ cap) (va.toList ++ [Value.func (.yield (w.heap.size + 1)) #[] #[]] ++ vc.toList) :=
    ((DenL.ext (Gh.le_refl _) _ _ hs1 g1b.1 g3).append (by simp only [DenL, Den]; exact ⟨_, _, rfl, ⟨rfl, rfl⟩, rfl⟩)).append (DenL.ext (Gh.le_refl _) _ _ hs1 g1b.2 g4)
  have hbd : bdL (s.nx + 1) (fst ++ [yv (w.heap.size + 1)] ++ cap) = true :=
    bdL_append (bdL_append (bdL_mono (Nat.le_succ _) _ g1b.1) rfl) (bdL_mono (Nat.le_succ _) _ g1b.2)
  have hinv : (invoke (.fn (.func f) vc) (va ++ #[Value.func (.yield (w.heap.size + 1)) #[] #[]])).run P w2 = .ok (.enter f (va.toList ++ [Value.func (.yield (w.heap.size + 1)) #[] #[]] ++ vc.toList).toArray) w2 := by
    have he := henter.run (va.toList ++ [Value.func (.yield (w.heap.size + 1)) #[] #[]] ++ vc.toList).toArray w2
    simp only [invoke]
    rw [← he]
    congr 2
    apply Array.toList_inj.1
    simp
  refine ⟨w.heap.size + 1, _, w2, { target := .fn (.func f) vc, args := va ++ #[Value.func (.yield (w.heap.size + 1)) #[] #[]] }, w2, f, _, w2, run_enterLoop_outer fn a.tmps ps assign body, ?_, fun _ _ => trivial, hinv, (fun hd => by cases hd), calls_fnc ?_⟩
  · simp only [resolve, g2, Deferred.ofValue]
    rw [Sem.run_pure]
    simp [Act.eval]
  refine (hcall Γ ρ1 w2 _ hi2 hden hbd).mono ?_
  rintro e w3 ⟨v, sv, Γ', ρ', mem', nx', rfl, h1, h2, h3, h4, h5, h6, h7, h8, q, hq, hk1, hk2⟩
  obtain ⟨⟨b1, b2, tmps, dfr, b3, b4, b5⟩, _, _⟩ := h1.priv s.nx _ hq
  have hql : q.l = w.heap.size + 1 := by
    have := (h6 s.nx (Nat.lt_succ_self _)).1
    rw [hl, b1] at this
    exact Option.some.inj this
  have hbusy : (q.record tmps dfr).state ≠ .busy := by
    simp only [Lp.record]; split <;> simp
  rw [hql] at b3 b2 b1
  have hnew : ∀ c, Owned ρ1 ((s.nx, .lp s.nx B) :: s.mem) c → Owned ρ s.mem c ∨ w.heap.size ≤ c := by
    rintro c ⟨r, C, hC, hc⟩
    rw [fnd_cons] at hC
    split at hC
    · rename_i e; subst e; rw [hl] at hc; cases hc; exact .inr (by omega)
    · rw [(hs1 r (hok.inv.priv r C hC).2.1).1] at hc
      exact .inl ⟨r, C, hC, hc⟩
  let w4 := w3.putObj (w.heap.size + 1) (.loop { q.record tmps dfr with state := .exhausted })
  have hsz2 : w2.heap.size = w.heap.size + 2 := by
    show (w1.alloc (.loop rec')).heap.size = _
    simp [w1]
  have hkeep0 : ∀ b, b < w.heap.size → w2.heap[b]? = w.heap[b]? := fun b hb => by
    rw [show w2 = w1.alloc (.loop rec') from rfl, heap_old w1 _ b (by rw [show w1.heap.size = w.heap.size + 1 from hsz]; omega)]
    exact heap_old w _ b hb
  have hstp : Stp ρ s.mem w ρ' (del mem' s.nx) w4 := by
    refine ⟨h4.os, h4.tape, h4.output, ?_, fun b hb ho => ?_, fun b => ?_⟩
    · have := h4.size
      rw [hsz2] at this
      show w.heap.size ≤ (w3.putObj _ _).heap.size
      rw [World.putObj_size]; omega
    · show (w3.putObj _ _).heap[b]? = _
      rw [World.putObj_heap_other (by omega), h4.keep b (by rw [hsz2]; omega) (fun ho' => (hnew b ho').elim ho (fun h => by omega)), hkeep0 b hb]
    · rintro ⟨r, C, hC, hb⟩
      rw [fnd_del] at hC
      split at hC
      · cases hC
      · rcases h4.own b ⟨r, C, hC, hb⟩ with h | h
        · exact hnew b h
        · rw [hsz2] at h; exact .inr (by omega)
  have hi4 : Inv Γ' ρ' nx' (del mem' s.nx) w4 := h1.turn hq b1 b2 _
  have hsame : Env.same s.nx ρ ρ' := fun r hr => by
    obtain ⟨k1, k2⟩ := h6 r (Nat.lt_succ_of_lt hr)
    obtain ⟨k3, k4⟩ := hs1 r hr
    exact ⟨k1.trans k3, k2.trans k4⟩
  have hmk : MkOk Γ'.lo w4 ({ target := .collected w.heap.size, args := #[] } :: a.defers) := by
    obtain ⟨m0, bs, m1, m2, m3⟩ := hok.marks
    have hge : w.heap.size ≤ w4.heap.size := hstp.size
    refine ⟨by rw [h5.2]; exact Nat.le_trans m0 hge, w.heap.size :: bs, by rw [m1]; rfl, ?_, fun b hb => ?_⟩
    · rw [List.nodup_cons]
      refine ⟨fun hm => ?_, m2⟩
      have := (Array.getElem?_eq_some_iff.1 (m3 _ hm).2).1
      omega
    · rcases List.mem_cons.1 hb with rfl | hb
      · refine ⟨by rw [h5.2]; exact m0, ?_⟩
        have hd : w2.heap[w.heap.size]? = some (.deferred (some [])) := by
          rw [show w2 = w1.alloc (.loop rec') from rfl, heap_old w1 _ _ (by rw [show w1.heap.size = w.heap.size + 1 from hsz]; omega)]
          exact World.alloc_heap_new w _
        show (w3.putObj _ _).heap[w.heap.size]? = _
        rw [World.putObj_heap_other (by omega), h4.keep _ (by rw [hsz2]; omega) (hi2.not_owned hd), hd]
      · obtain ⟨k1, k2⟩ := m3 b hb
        exact ⟨by rw [h5.2]; exact k1, by rw [hstp.keep b (Array.getElem?_eq_some_iff.1 k2).1 (hok.inv.not_owned k2), k2]⟩
  have hok4 : Ok Γ' ρ' N ⟨s.fr, del mem' s.nx, nx'⟩ w4 { a with defers := [{ target := .collected w.heap.size, args := #[] }] ++ a.defers } := by
    have hf := hok.frame.grow h5 hsame (Nat.le_trans (Nat.le_succ _) h7)
    exact ⟨hi4, hmk, hf.size, hf.slot⟩
  have hnxt : Nxt n0 Γ ρ s w Γ' ρ' ⟨s.fr, del mem' s.nx, nx'⟩ w4 := ⟨hstp, h5, Env.same_mono hn hsame, Nat.le_trans hn (Nat.le_trans (Nat.le_succ _) h7), fun b hb => by
    rcases h8 b hb with h | h | h
    · exact .inl h
    · exact .inr (hnew b h)
    · rw [hsz2] at h; exact .inr (.inr (by omega))⟩
  refine ⟨q.left, w4, run_endLoop b3 hbusy, ?_⟩
  cases hj : q.left with
  | none => exact ⟨.normal, Γ', ρ', _, rfl, hok4, hnxt, hk1 hj⟩
  | some c => exact wpIn_mono (hk2 c hj Γ' ρ' w4 _ hnxt.nx hok4) fun _ _ _ q => q.weaken hnxt
end

/-! A call of yield: a round of the loop that the iterator serves, in place. -/

theorem Inv.poke {Γ : Gh} {ρ : Env} {nx : Nat} {mem : Mem} {w : World} (h : Inv Γ ρ nx mem w) {l : Nat} (ho : ¬ Owned ρ mem l) (hn : Γ l = none) (o : Obj) : Inv Γ ρ nx mem (w.putObj l o) where
  pub b cs hc := by
    obtain ⟨E, fz, e⟩ := h.pub b cs hc
    have hbl : b ≠ l := fun e => by rw [e, hn] at hc; cases hc
    exact ⟨E, fz, by rw [World.putObj_heap_other hbl, e]⟩
  priv r B hB := by
    obtain ⟨h1, h2, h3⟩ := h.priv r B hB
    exact ⟨h1.move (Gh.le_refl _) (Env.same_refl nx ρ) h2 h3 (fun b hb => ⟨World.putObj_heap_other (fun e => ho ⟨r, B, hB, e ▸ hb⟩), id⟩), h2, h3⟩
  inj := h.inj
theorem MkOk.poke {lo : Nat} {w : World} {ds : List Deferred} {l : Nat} {q : Loop} (h : MkOk lo w ds) (hl : w.heap[l]? = some (.loop q)) (o : Obj) : MkOk lo (w.putObj l o) ds := by
  obtain ⟨h0, bs, h1, h2, h3⟩ := h
  refine ⟨by rw [World.putObj_size]; exact h0, bs, h1, h2, fun b hb => ?_⟩
  obtain ⟨h4, h5⟩ := h3 b hb
  have hbl : b ≠ l := fun e => by rw [e, hl] at h5; cases h5
  exact ⟨h4, by rw [World.putObj_heap_other hbl, h5]⟩

/-- A round's frame: the loop's, with what yield was handed. -/
def roundFr (ps : List Nat) (xs : List SV) (fr : Fr) : Fr := (ps.zip xs).foldl (fun f x => (x.1, x.2) :: f) fr
theorem roundFr_den {Γ : Gh} {ρ : Env} {nx N : Nat} : ∀ (ps : List Nat) (xs : List SV) (vs : List Value) (fr : Fr) (tmps : Array Value), DenL Γ ρ xs vs → bdL nx xs = true → (∀ t ∈ ps, t < N) → tmps.size = N → (∀ d s, fnd fr d = some s → Den Γ ρ s (tmps.getD d undef) ∧ s.bd nx = true) →
    ((ps.zip vs).foldl (fun f x => f.setIfInBounds x.1 x.2) tmps).size = N ∧ ∀ d s, fnd (roundFr ps xs fr) d = some s → Den Γ ρ s (((ps.zip vs).foldl (fun f x => f.setIfInBounds x.1 x.2) tmps).getD d undef) ∧ s.bd nx = true
  | [], _, _, fr, tmps, _, _, _, hz, h => ⟨hz, h⟩
  | t :: ps, [], vs, fr, tmps, hd, _, _, hz, h => by
    simp only [DenL] at hd
    subst hd
    exact ⟨hz, h⟩
  | t :: ps, x :: xs, vs, fr, tmps, hd, hb, hp, hz, h => by
    simp only [DenL] at hd
    obtain ⟨v, vr, rfl, h1, h2⟩ := hd
    simp only [bdL, Bool.and_eq_true] at hb
    have ht : t < N := hp t (by simp)
    have := roundFr_den ps xs vr ((t, x) :: fr) (tmps.setIfInBounds t v) h2 hb.2 (fun u hu => hp u (by simp [hu])) (by simpa using hz) (fun d s hs => by
      rw [fnd_cons] at hs
      split at hs
      · rename_i e; subst e; cases hs
        have hz' : t < tmps.size := by rw [hz]; exact ht
        exact ⟨by simpa [hz'] using h1, hb.1⟩
      · rename_i e
        obtain ⟨k1, k2⟩ := h d s hs
        exact ⟨by simpa [Array.getElem?_setIfInBounds_ne e] using k1, k2⟩)
    simpa [roundFr] using this

def XE.jump : XE → Option Code
  | .normal => none
  | .ret => some .ret
  | .exit i => some (.exit i)
  | .goto l => some (.goto l)

section
variable {rd : Option Nat} {P : Program} {T : Tab} {N n0 : Nat} {ops : Array Oper}
/-- Behind a round: yield's answer, and the record. -/
def YieldK (rd : Option Nat) (P : Program) (N n0 : Nat) (ops : Array Oper) (l : List Oper) (K : St → Prop) (s : St) (o : Oper) (r nb : Nat) (q : Lp) : XE → St → Prop := fun e s2 =>
  ∃ fr', putS N s.fr o.dst (.bool e.jump.isNone) = some fr' ∧ XO rd P N n0 ops l K ⟨fr', (r, .lp nb { q with left := e.jump }) :: s2.mem, s2.nx⟩
theorem xo_yield {o : Oper} {l : List Oper} {K : St → Prop} {s : St} {g : Operand} {as : List Operand} {ats : Array TypeId} {lq r nb : Nat} {q : Lp} (hg : gd ops s.fr o.guard = some true) (ho : o.op = .call ⟨.value g, ⟨as⟩, ats⟩) (hy : evo s.fr g = yv lq)
    (hm : fnd s.mem r = some (.lp nb q)) (hql : q.l = lq) (hleft : q.left = none) (hps : q.ps.size = as.length) (hpN : ∀ t ∈ q.ps.toList, t < q.N)
    (h : XW (some lq) P q.N s.nx q.assign (fun e s1 => e = .normal ∧ XW (some lq) P q.N s.nx q.body (YieldK rd P N n0 ops l K s o r nb q) s1) ⟨roundFr q.ps.toList (as.map (evo s.fr)) q.fr, del s.mem r, s.nx⟩) : XO rd P N n0 ops (o :: l) K s := by
  intro Γ ρ w a Q hn hok hQ
  refine wpListIn_step fun K' hK' => ?_
  rw [gd_sound hok.frame hg, if_pos rfl]
  obtain ⟨⟨b1, b2, tmps, dfr, b3, b4, b5⟩, hrnx, hnb⟩ := hok.inv.priv r _ hm
  have hnb : nb ≤ s.nx := Nat.le_of_ble_eq_true hnb
  rw [hql] at b1 b2 b3
  obtain ⟨g1, _⟩ := evo_den hok.frame g
  rw [hy] at g1
  simp only [Den] at g1
  have hev : a.eval g = .func (.yield lq) #[] #[] := g1.1
  obtain ⟨m1, m2⟩ := mapDen hok.frame as
  have hlw : lq < w.heap.size := (Array.getElem?_eq_some_iff.1 b3).1
  have hrun : (execOp a.eval o).run P w = .ok (.round lq q.fn ((q.ps.zip (as.map a.eval).toArray).foldl (fun tmps (t, a) => tmps.setIfInBounds t a) tmps) q.assign q.body) w := by
    have hy := run_yield (P := P) (args := (as.map a.eval).toArray) b3 (by simp [Lp.record, hps])
    simp only [execOp, ho, resolve, hev, Deferred.ofValue, Sem.run_bind, Sem.run_pure, Result.andThen_ok, invoke]
    simpa [Lp.record] using hy
  refine ⟨fun _ _ => trivial, ?_⟩
  rw [Oper.semAt_eq _ _ _ (fun c hc => by rw [ho] at hc; cases hc), hrun, Oper.uponIn_round]
  refine ⟨(fun hd => by cases hd), roundIn_of_wpIn trivial ?_⟩
  -- what belongs to nobody
  have hno : ¬ Owned ρ (del s.mem r) lq := by
    rintro ⟨r', C, hC, hc⟩
    rw [fnd_del] at hC
    split at hC
    · cases hC
    · rename_i hne; exact hne (hok.inv.inj r' r lq C _ hC hm hc b1)
  have hfr := roundFr_den q.ps.toList (as.map (evo s.fr)) (as.map a.eval) q.fr tmps m1 m2 hpN b4 (fun d x hd => ⟨(b5 d x hd).1, SV.bd_mono hnb x (b5 d x hd).2⟩)
  have htm : (q.ps.zip (as.map a.eval).toArray).foldl (fun tmps (t, a) => tmps.setIfInBounds t a) tmps = (q.ps.toList.zip (as.map a.eval)).foldl (fun f x => f.setIfInBounds x.1 x.2) tmps := by
    rw [← Array.foldl_toList]; simp
  rw [htm]
  have hok0 : Ok Γ ρ q.N ⟨roundFr q.ps.toList (as.map (evo s.fr)) q.fr, del s.mem r, s.nx⟩ w { tmps := (q.ps.toList.zip (as.map a.eval)).foldl (fun f x => f.setIfInBounds x.1 x.2) tmps, defers := [] } :=
    ⟨hok.inv.del r, MkOk.nil hok.marks.1, hfr.1, hfr.2⟩
  refine wpIn_mono (h Γ ρ w _ (Nat.le_refl _) hok0) ?_
  rintro e a1 w1 ⟨xe, Γ1, ρ1, s1, rfl, hok1, hnx1, rfl, hbody⟩
  have hl1 : w1.heap[lq]? = some (.loop (q.record tmps dfr)) := by rw [hnx1.stp.keep lq hlw hno, b3]
  have hno1 : ¬ Owned ρ1 s1.mem lq := fun h => (hnx1.stp.own lq h).elim hno (fun h => by omega)
  have hg1 : Γ1 lq = none := by
    cases hq : Γ1 lq with
    | none => rfl
    | some cs =>
      rcases hnx1.new lq (by rw [hq]; simp) with h | h | h
      · exact absurd b2 h
      · exact absurd h hno
      · omega
  refine ⟨_, run_beginRound hl1 (by simp [Lp.record, hleft]), ?_⟩
  have hok2 : Ok Γ1 ρ1 q.N s1 (w1.putObj lq (.loop { q.record tmps dfr with state := .busy })) a1 := ⟨hok1.inv.poke hno1 hg1 _, hok1.marks.poke hl1 _, hok1.frame⟩
  refine wpIn_mono (hbody Γ1 ρ1 _ a1 hnx1.nx hok2) ?_
  rintro e a2 w3 ⟨xe, Γ2, ρ2, s2, rfl, hok3, hnx3, fr', hput, hx⟩
  have hlw1 : lq < w1.heap.size := (Array.getElem?_eq_some_iff.1 hl1).1
  have hl3 : w3.heap[lq]? = some (.loop { q.record tmps dfr with state := .busy }) := by
    rw [hnx3.stp.keep lq (by rw [World.putObj_size]; exact hlw1) hno1]; exact World.putObj_heap_same hlw1
  have hno3 : ¬ Owned ρ2 s2.mem lq := fun h => (hnx3.stp.own lq h).elim hno1 (fun h => by rw [World.putObj_size] at h; omega)
  have hg3 : Γ2 lq = none := by
    cases hq : Γ2 lq with
    | none => rfl
    | some cs =>
      rcases hnx3.new lq (by rw [hq]; simp) with h | h | h
      · exact absurd hg1 h
      · exact absurd h hno1
      · rw [World.putObj_size] at h; omega
  have hend := run_endRound (P := P) xe.jump hl3
  have hlw3 : lq < w3.heap.size := (Array.getElem?_eq_some_iff.1 hl3).1
  have hle : Γ.le Γ2 := Gh.le_trans hnx1.le hnx3.le
  have hsame : Env.same s.nx ρ ρ2 := fun x hx => ⟨(hnx3.same x hx).1.trans (hnx1.same x hx).1, (hnx3.same x hx).2.trans (hnx1.same x hx).2⟩
  have hnx : s.nx ≤ s2.nx := hnx3.nx
  generalize hw4 : w3.putObj lq (.loop { ({ q.record tmps dfr with state := .busy } : Loop) with state := if xe.jump.isNone then .ready else .done, pending := xe.jump }) = w4 at hend
  have hsz4 : w4.heap.size = w3.heap.size := by rw [← hw4]; exact World.putObj_size
  have hot4 : ∀ b, b ≠ lq → w4.heap[b]? = w3.heap[b]? := fun b hb => by rw [← hw4]; exact World.putObj_heap_other hb
  have hinv4 : Inv Γ2 ρ2 s2.nx ((r, .lp nb { q with left := xe.jump }) :: s2.mem) w4 := by
    have hi := hok3.inv.poke hno3 hg3 (.loop { ({ q.record tmps dfr with state := .busy } : Loop) with state := if xe.jump.isNone then .ready else .done, pending := xe.jump })
    rw [hw4] at hi
    refine ⟨hi.pub, fun r' C hC => ?_, fun r1 r2 b C1 C2 h1 h2 e1 e2 => ?_⟩
    · rw [fnd_cons] at hC
      split at hC
      · rename_i e; subst e; cases hC
        refine ⟨⟨by rw [(hsame r hrnx).1, b1]; exact congrArg some hql.symm, by show Γ2 q.l = none; rw [hql]; exact hg3, tmps, dfr, ?_, b4, fun d x hd => ⟨Den.ext hle x _ (Env.same_mono hnb hsame) (b5 d x hd).2 (b5 d x hd).1, (b5 d x hd).2⟩⟩, Nat.lt_of_lt_of_le hrnx hnx, Nat.ble_eq_true_of_le (Nat.le_trans hnb hnx)⟩
        show w4.heap[q.l]? = _
        rw [hql, ← hw4, World.putObj_heap_same hlw3]
        rfl
      · exact hi.priv r' C hC
    · rw [fnd_cons] at h1 h2
      have hr2 : ρ2.blk r = some lq := by rw [(hsame r hrnx).1, b1]
      split at h1 <;> split at h2
      · omega
      · rename_i e e'; subst e; rw [hr2] at e1; cases e1; exact absurd ⟨r2, C2, h2, e2⟩ hno3
      · rename_i e e'; subst e'; rw [hr2] at e2; cases e2; exact absurd ⟨r1, C1, h1, e1⟩ hno3
      · exact hi.inj r1 r2 b C1 C2 h1 h2 e1 e2
  have hstp : Stp ρ s.mem w ρ2 ((r, .lp nb { q with left := xe.jump }) :: s2.mem) w4 := by
    have hdel : ∀ b, Owned ρ (del s.mem r) b → Owned ρ s.mem b := by
      rintro b ⟨r', C, hC, hb⟩
      rw [fnd_del] at hC
      split at hC
      · cases hC
      · exact ⟨r', C, hC, hb⟩
    refine ⟨?_, ?_, ?_, ?_, fun b hb ho => ?_, fun b => ?_⟩
    · rw [← hw4]; exact hnx3.stp.os.trans hnx1.stp.os
    · rw [← hw4]; exact hnx3.stp.tape.trans hnx1.stp.tape
    · rw [← hw4]; exact hnx3.stp.output.trans hnx1.stp.output
    · rw [hsz4]; have := hnx3.stp.size; rw [World.putObj_size] at this; exact Nat.le_trans hnx1.stp.size this
    · have hbl : b ≠ lq := fun e => ho ⟨r, _, hm, e ▸ b1⟩
      rw [hot4 b hbl, hnx3.stp.keep b (by rw [World.putObj_size]; exact Nat.lt_of_lt_of_le hb hnx1.stp.size) (fun h => (hnx1.stp.own b h).elim (fun h => ho (hdel b h)) (fun h => by omega)), World.putObj_heap_other hbl]
      exact hnx1.stp.keep b hb (fun h => ho (hdel b h))
    · rintro ⟨r', C, hC, hb⟩
      rw [fnd_cons] at hC
      split at hC
      · rename_i e; subst e
        rw [(hsame r hrnx).1] at hb
        exact .inl ⟨r, _, hm, hb⟩
      · rcases hnx3.stp.own b ⟨r', C, hC, hb⟩ with h | h
        · exact (hnx1.stp.own b h).imp (hdel b) id
        · rw [World.putObj_size] at h; exact .inr (Nat.le_trans hnx1.stp.size h)
  have hnew : ∀ b, Γ2 b ≠ none → Γ b ≠ none ∨ Owned ρ s.mem b ∨ w.heap.size ≤ b := fun b hb => by
    have hdel : ∀ b, Owned ρ (del s.mem r) b → Owned ρ s.mem b := by
      rintro b ⟨r', C, hC, hb⟩
      rw [fnd_del] at hC
      split at hC
      · cases hC
      · exact ⟨r', C, hC, hb⟩
    rcases hnx3.new b hb with h | h | h
    · rcases hnx1.new b h with h | h | h
      · exact .inl h
      · exact .inr (.inl (hdel b h))
      · exact .inr (.inr h)
    · exact .inr ((hnx1.stp.own b h).imp (hdel b) id)
    · rw [World.putObj_size] at h; exact .inr (.inr (Nat.le_trans hnx1.stp.size h))
  have hok4 : Ok Γ2 ρ2 N ⟨fr', (r, .lp nb { q with left := xe.jump }) :: s2.mem, s2.nx⟩ w4 (a.put o.dst (.bool xe.jump.isNone)) :=
    ⟨hinv4, by rw [put_defers]; exact hok.marks.step hok.inv hstp hle, putS_sound hput (hok.frame.grow hle hsame hnx) (by simp only [Den]) rfl⟩
  have hgo : K' (a.put o.dst (.bool xe.jump.isNone)) w4 := hK' _ _ (hx Γ2 ρ2 w4 _ Q (Nat.le_trans hn hnx) hok4 (fun Γ₂ ρ₂ s₂ w₂ a₂ k1 k2 k3 => hQ Γ₂ ρ₂ s₂ w₂ a₂ k1
    (Nxt.trans (s₁ := ⟨fr', (r, .lp nb { q with left := xe.jump }) :: s2.mem, s2.nx⟩) ⟨hstp, hle, Env.same_mono hn hsame, Nat.le_trans hn hnx, hnew⟩ k2) k3))
  cases xe with
  | normal => exact ⟨_, _, hend, hgo⟩
  | ret => exact ⟨_, _, hend, hgo⟩
  | exit i => exact ⟨_, _, hend, hgo⟩
  | goto t => exact ⟨_, _, hend, hgo⟩
end
end Go.Proofs.Ytlapjlbmhaalbaa.X
