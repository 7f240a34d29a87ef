/- Regions that draw their order, whose operations leave private memory alone: one lexical run serves every order. -/
import Derived.Test.YtjchmajamlehmaaXm
namespace Go.Proofs.Ytjchmajamlehmaa.X
open Go Go.RowKit

def rs (fr : Fr) : List Nat → Fr
  | [] => []
  | t :: l => match fnd fr t with
    | some s => (t, s) :: rs fr l
    | none => rs fr l

theorem fnd_rs (fr : Fr) : ∀ (l : List Nat) (t : Nat) (s : SV), fnd (rs fr l) t = some s → t ∈ l ∧ fnd fr t = some s
  | [], t, s, h => by simp [rs, fnd] at h
  | u :: l, t, s, h => by
    simp only [rs] at h
    split at h
    · rename_i x hx
      rw [fnd_cons] at h
      split at h
      · rename_i e; subst e; cases h; exact ⟨by simp, hx⟩
      · obtain ⟨h1, h2⟩ := fnd_rs fr l t s h; exact ⟨by simp [h1], h2⟩
    · obtain ⟨h1, h2⟩ := fnd_rs fr l t s h; exact ⟨by simp [h1], h2⟩
theorem rs_congr {fr fr' : Fr} (h : ∀ t, fnd fr t = fnd fr' t) : ∀ l, rs fr l = rs fr' l
  | [] => rfl
  | t :: l => by simp only [rs, h t, rs_congr h l]

def putO (fr : Fr) (d : Option Nat) (s : SV) : Fr := match d with
  | some d => (d, s) :: fr
  | none => fr
theorem putO_congr {fr fr' : Fr} (h : ∀ t, fnd fr t = fnd fr' t) (d : Option Nat) (s : SV) : ∀ t, fnd (putO fr d s) t = fnd (putO fr' d s) t := fun t => by
  cases d with
  | none => exact h t
  | some d => simp only [putO, fnd_cons, h t]

def lexFr (fr : Fr) : List Oper → List SV → Fr
  | o :: l, s :: ss => lexFr (putO fr o.dst s) l ss
  | _, _ => fr
theorem lexFr_congr : ∀ (l : List Oper) (ss : List SV) {fr fr' : Fr}, (∀ t, fnd fr t = fnd fr' t) → ∀ t, fnd (lexFr fr l ss) t = fnd (lexFr fr' l ss) t
  | [], _, _, _, h, t => by simpa [lexFr] using h t
  | _ :: _, [], _, _, h, t => by simpa [lexFr] using h t
  | o :: l, s :: ss, _, _, h, t => by simp only [lexFr]; exact lexFr_congr l ss (putO_congr h o.dst s) t

section
variable {rd : Option Nat} {P : Program} {T : Tab} {N n0 : Nat} {ops : Array Oper} {mem : Mem} {nx : Nat}

def QStep (P : Program) (N : Nat) (ops : Array Oper) (mem : Mem) (nx : Nat) (fr : Fr) (o : Oper) (sv : SV) : Prop :=
  (gd ops (rs fr (o.looksAt ops)) o.guard = some false ∧ sv = .tup []) ∨
  (gd ops (rs fr (o.looksAt ops)) o.guard = some true ∧
    (OpOk P N (rs fr (o.looksAt ops)) mem nx o sv mem nx ∨
     ∃ f args, callee (rs fr (o.looksAt ops)) o.op = some (f, args) ∧ XCall P f args mem nx fun s m n => s = sv ∧ m = mem ∧ n = nx))

def QAll (P : Program) (N : Nat) (ops : Array Oper) (mem : Mem) (nx : Nat) : List Oper → List SV → Fr → Prop
  | [], [], _ => True
  | o :: l, s :: ss, fr => QStep P N ops mem nx fr o s ∧ QAll P N ops mem nx l ss (putO fr o.dst s)
  | _, _, _ => False

theorem QAll.congr : ∀ {l : List Oper} {ss : List SV} {fr fr' : Fr}, (∀ t, fnd fr t = fnd fr' t) → QAll P N ops mem nx l ss fr → QAll P N ops mem nx l ss fr'
  | [], [], _, _, _, _ => trivial
  | [], _ :: _, _, _, _, h => h.elim
  | _ :: _, [], _, _, _, h => h.elim
  | o :: l, s :: ss, fr, fr', hf, h => by
    obtain ⟨h1, h2⟩ := h
    refine ⟨?_, QAll.congr (putO_congr hf o.dst s) h2⟩
    unfold QStep at *
    rw [← rs_congr hf]; exact h1

theorem QAll.len : ∀ {l : List Oper} {ss : List SV} {fr : Fr}, QAll P N ops mem nx l ss fr → ss.length = l.length
  | [], [], _, _ => rfl
  | [], _ :: _, _, h => h.elim
  | _ :: _, [], _, h => h.elim
  | o :: l, s :: ss, fr, h => by simp [QAll.len h.2]

theorem QAll.at : ∀ {l : List Oper} {ss : List SV} {fr : Fr}, QAll P N ops mem nx l ss fr → ∀ i o s, l[i]? = some o → ss[i]? = some s → QStep P N ops mem nx (lexFr fr (l.take i) (ss.take i)) o s
  | [], _, _, _, i, o, s, h, _ => by simp at h
  | _ :: _, [], _, h, _, _, _, _, _ => h.elim
  | o' :: l, s' :: ss, fr, h, 0, o, s, h1, h2 => by
    simp at h1 h2; subst h1 h2
    simpa [lexFr] using h.1
  | o' :: l, s' :: ss, fr, h, i + 1, o, s, h1, h2 => by
    simp at h1 h2
    simpa [lexFr] using QAll.at h.2 i o s h1 h2

def dstNe (ops : List Oper) (d : Nat) : Bool := ops.all fun o => match o.dst with
  | some e => !(Nat.beq e d)
  | none => true
def uniq : List Oper → Bool
  | [] => true
  | o :: l => (match o.dst with | some d => dstNe l d | none => true) && uniq l
def pairOk (ops : Array Oper) (i : Nat) (oi oj : Oper) : Bool :=
  (match oi.dst with
   | some d => !(oj.looksAt ops).contains d || oj.after.any (fun e => e.on == i && Region.binds .any e)
   | none => true) &&
  (match oj.dst with
   | some d => !(oi.looksAt ops).contains d || oj.after.any (fun e => e.on == i && Region.binds .any e)
   | none => true)
def pairsOk (ops : Array Oper) : Bool := (List.range ops.size).all fun j => (List.range j).all fun i => match ops[i]?, ops[j]? with
  | some oi, some oj => pairOk ops i oi oj
  | _, _ => true
def downOk (ops : Array Oper) : Bool := (List.range ops.size).all fun j => match ops[j]? with
  | some o => o.after.all fun e => !(Region.binds .any e) || Nat.blt e.on j
  | none => true
def ownOk (ops : Array Oper) : Bool := ops.toList.all fun o => match o.dst with
  | some d => !(o.looksAt ops).contains d
  | none => true
def fitOk (N : Nat) (ops : Array Oper) : Bool := ops.toList.all fun o => match o.dst with
  | some d => Nat.blt d N
  | none => true
def drawOk (N : Nat) (ops : Array Oper) : Bool := uniq ops.toList && pairsOk ops && downOk ops && ownOk ops && fitOk N ops

theorem uniq_spec : ∀ {l : List Oper}, uniq l = true → ∀ (i j : Nat) (oi oj : Oper) (d : Nat), l[i]? = some oi → l[j]? = some oj → oi.dst = some d → oj.dst = some d → i = j
  | [], _, i, j, oi, oj, d, h, _, _, _ => by simp at h
  | o :: l, hu, i, j, oi, oj, d, h1, h2, h3, h4 => by
    simp only [uniq, Bool.and_eq_true] at hu
    have key : ∀ (k : Nat) (ok : Oper), l[k]? = some ok → ok.dst = some d → o.dst = some d → False := fun k ok hk hd ho => by
      rw [ho] at hu
      have := List.all_eq_true.1 hu.1 ok (List.mem_of_getElem? hk)
      rw [hd] at this
      simp at this
    match i, j, h1, h2 with
    | 0, 0, _, _ => rfl
    | 0, j + 1, h1, h2 => simp at h1 h2; subst h1; exact (key j oj h2 h4 h3).elim
    | i + 1, 0, h1, h2 => simp at h1 h2; subst h2; exact (key i oi h1 h3 h4).elim
    | i + 1, j + 1, h1, h2 => simp at h1 h2; rw [uniq_spec hu.2 i j oi oj d h1 h2 h3 h4]

theorem fnd_lex : ∀ {l : List Oper} {ss : List SV} {fr : Fr} (_ : uniq l = true) (_ : ss.length = l.length) (t : Nat),
    (∃ (j : Nat) (o : Oper) (s : SV), l[j]? = some o ∧ ss[j]? = some s ∧ o.dst = some t ∧ fnd (lexFr fr l ss) t = some s) ∨ ((∀ (j : Nat) (o : Oper), l[j]? = some o → o.dst ≠ some t) ∧ fnd (lexFr fr l ss) t = fnd fr t)
  | [], ss, fr, _, _, t => .inr ⟨fun j o h => by simp at h, by simp [lexFr]⟩
  | o :: l, [], fr, _, h, t => by simp at h
  | o :: l, s :: ss, fr, hu, hl, t => by
    have hu' := hu
    simp only [uniq, Bool.and_eq_true] at hu
    simp only [lexFr]
    rcases fnd_lex (fr := putO fr o.dst s) hu.2 (by simpa using hl) t with ⟨j, oj, sj, h1, h2, h3, h4⟩ | ⟨h1, h2⟩
    · exact .inl ⟨j + 1, oj, sj, by simpa using h1, by simpa using h2, h3, h4⟩
    · by_cases hd : o.dst = some t
      · refine .inl ⟨0, o, s, by simp, by simp, hd, ?_⟩
        rw [h2, hd]; simp [putO, fnd_cons]
      · refine .inr ⟨fun j oj hj => ?_, ?_⟩
        · cases j with
          | zero => simp at hj; subst hj; exact hd
          | succ j => simp at hj; exact h1 j oj hj
        · rw [h2]
          cases ho : o.dst with
          | none => rfl
          | some d =>
            rw [ho] at hd
            simp only [putO, fnd_cons]
            rw [if_neg (fun e => hd (by rw [e]))]

theorem uniq_take : ∀ {l : List Oper} (n : Nat), uniq l = true → uniq (l.take n) = true
  | [], _, _ => by simp [uniq]
  | _ :: _, 0, _ => by simp [uniq]
  | o :: l, n + 1, h => by
    simp only [uniq, Bool.and_eq_true, List.take_succ_cons] at *
    refine ⟨?_, uniq_take n h.2⟩
    cases ho : o.dst with
    | none => rfl
    | some d =>
      rw [ho] at h
      exact List.all_eq_true.2 fun x hx => List.all_eq_true.1 h.1 x (List.mem_of_mem_take hx)

structure QInv (N : Nat) (ops : Array Oper) (mem : Mem) (nx : Nat) (fr : Fr) (ss : List SV) (Γ : Gh) (ρ : Env) (w : World) (a : Act) (listed : Array Bool) : Prop where
  inv : Inv Γ ρ nx mem w
  defers : MkOk Γ.lo w a.defers
  size : a.tmps.size = N
  old : ∀ t s, fnd fr t = some s → (∀ j o, ops[j]? = some o → o.dst = some t → listed.getD j true = false) → Den Γ ρ s (a.tmps.getD t undef) ∧ s.bd nx = true
  new : ∀ j o s d, ops[j]? = some o → ss[j]? = some s → listed.getD j true = true → o.dst = some d → Den Γ ρ s (a.tmps.getD d undef) ∧ s.bd nx = true
  down : ∀ j o, ops[j]? = some o → listed.getD j true = true → ∀ e ∈ o.after, Region.binds .any e = true → listed.getD e.on false = true
  lsize : listed.size = ops.size

theorem mem_ready' {listed : Array Bool} {i : Nat} (h : i ∈ Region.ready .any ops listed) : listed.getD i true = false ∧ ∃ o, ops[i]? = some o ∧ ∀ e ∈ o.after, Region.binds .any e = true → listed.getD e.on false = true := by
  unfold Region.ready at h
  rw [List.mem_filter] at h
  obtain ⟨h1, h2⟩ := h
  simp only [Bool.and_eq_true, Bool.not_eq_true'] at h2
  refine ⟨h2.1, ?_⟩
  cases ho : ops[i]? with
  | none => rw [ho] at h2; simp at h2
  | some o =>
    rw [ho] at h2
    refine ⟨o, rfl, fun e he hb => ?_⟩
    simp only [Option.map_some, Option.getD_some, Array.all_eq_true'] at h2
    have := h2.2 e he
    simpa [hb] using this

theorem getD_true_of_false {listed : Array Bool} {i : Nat} (h : listed.getD i false = true) : listed.getD i true = true := by
  rw [Array.getD_eq_getD_getElem?] at *
  cases hq : listed[i]? with
  | none => simp [hq] at h
  | some b => simpa [hq] using h

theorem getD_false_of_true {listed : Array Bool} {i : Nat} (hi : i < listed.size) (h : listed.getD i true = true) : listed.getD i false = true := by
  rw [Array.getD_eq_getD_getElem?] at *
  rw [Array.getElem?_eq_getElem hi] at *
  simpa using h
theorem getD_set (listed : Array Bool) (i j : Nat) (hi : i < listed.size) (b : Bool) : (listed.setIfInBounds i true).getD j b = if j = i then true else listed.getD j b := by
  rw [Array.getD_eq_getD_getElem?, Array.getD_eq_getD_getElem?, Array.getElem?_setIfInBounds]
  by_cases h : i = j
  · subst h; simp [hi]
  · simp [h, Ne.symm h]

theorem QInv.step {fr : Fr} {ss : List SV} {Γ Γ' : Gh} {ρ ρ' : Env} {w w' : World} {a : Act} {listed : Array Bool} (h : QInv N ops mem nx fr ss Γ ρ w a listed) (hu : uniq ops.toList = true) (hfit : ∀ (i : Nat) (o : Oper) (d : Nat), ops[i]? = some o → o.dst = some d → d < N)
    {i : Nat} {o : Oper} {s : SV} {v : Value} (ho : ops[i]? = some o) (hs : ss[i]? = some s) (hready : ∀ e ∈ o.after, Region.binds .any e = true → listed.getD e.on false = true)
    {mem₂ : Mem} (hst : Stp ρ mem w ρ' mem₂ w') (hi' : Inv Γ' ρ' nx mem w') (hle : Γ.le Γ') (hsame : Env.same nx ρ ρ') (hv : Den Γ' ρ' s v) (hb : s.bd nx = true) : QInv N ops mem nx fr ss Γ' ρ' w' (a.put o.dst v) (listed.setIfInBounds i true) := by
  have hil : i < listed.size := by rw [h.lsize]; exact (Array.getElem?_eq_some_iff.1 ho).1
  have hput : ∀ t, o.dst ≠ some t → (a.put o.dst v).tmps.getD t undef = a.tmps.getD t undef := fun t ht => by
    cases hd : o.dst with
    | none => rfl
    | some d =>
      rw [hd] at ht
      have : d ≠ t := fun e => ht (by rw [e])
      simp [Act.put, this]
  have hself : ∀ d, o.dst = some d → (a.put o.dst v).tmps.getD d undef = v := fun d hd => by
    have : d < a.tmps.size := by rw [h.size]; exact hfit i o d ho hd
    simp [Act.put, hd, this]
  refine ⟨hi', ?_, ?_, fun t x hx hno => ?_, fun j oj x d hj hsj hl hd => ?_, fun j oj hj hl e he hbe => ?_, by simp [h.lsize]⟩
  · rw [put_defers]; exact h.defers.step h.inv hst hle
  · cases hd : o.dst <;> simpa [Act.put] using h.size
  · have hne : o.dst ≠ some t := fun e => by
      have := hno i o ho e
      rw [getD_set listed i i hil] at this
      simp at this
    rw [hput t hne]
    obtain ⟨h1, h2⟩ := h.old t x hx (fun j oj hj hd => by
      have := hno j oj hj hd
      rw [getD_set listed i j hil] at this
      split at this
      · cases this
      · exact this)
    exact ⟨Den.ext hle x _ hsame h2 h1, h2⟩
  · rw [getD_set listed i j hil] at hl
    split at hl
    · rename_i e
      subst e
      rw [ho] at hj; cases hj
      rw [hs] at hsj; cases hsj
      rw [hself d hd]
      exact ⟨hv, hb⟩
    · rename_i hne
      have hnd : o.dst ≠ some d := fun e => hne (uniq_spec hu j i oj o d (by simpa using hj) (by simpa using ho) hd e)
      rw [hput d hnd]
      obtain ⟨h1, h2⟩ := h.new j oj x d hj hsj hl hd
      exact ⟨Den.ext hle x _ hsame h2 h1, h2⟩
  · rw [getD_set listed i e.on hil]
    rw [getD_set listed i j hil] at hl
    split at hl
    · rename_i e'
      subst e'
      rw [ho] at hj; cases hj
      split
      · rfl
      · exact hready e he hbe
    · split
      · rfl
      · exact h.down j oj hj hl e he hbe

theorem wp_of_call {fr : Fr} {o : Oper} {f : Nat} {args : List SV} {K : SV → Mem → Nat → Prop} (hc : callee fr o.op = some (f, args)) (h : XCall P f args mem nx K) {Γ : Gh} {ρ : Env} {w : World} {a : Act} (hi : Inv Γ ρ nx mem w) (hf : FrDen Γ ρ nx N fr a)
    {next : Act → World → Prop} {Q : Exit → Act → World → Prop} (hnext : ∀ v sv Γ' ρ' mem' nx' w', Inv Γ' ρ' nx' mem' w' → Den Γ' ρ' sv v → sv.bd nx' = true → Stp ρ mem w ρ' mem' w' → Γ.le Γ' → Env.same nx ρ ρ' → nx ≤ nx' → (∀ b, Γ' b ≠ none → Γ b ≠ none ∨ Owned ρ mem b ∨ w.heap.size ≤ b) → K sv mem' nx' → next (a.put o.dst v) w') :
    o.wpIn (fnc rd) 0 P a w next Q := by
  unfold callee at hc
  split at hc
  · rename_i g as ats ho
    split at hc
    · rename_i f' first cap hg'
      simp only [Option.some.injEq, Prod.mk.injEq] at hc
      obtain ⟨rfl, rfl⟩ := hc
      obtain ⟨g1, g1b⟩ := evo_den hf g
      rw [hg'] at g1 g1b
      simp only [Den] at g1
      obtain ⟨va, vc, g2, g3, g4⟩ := g1
      simp only [SV.bd, Bool.and_eq_true] at g1b
      obtain ⟨m1, m2⟩ := mapDen hf as.toList
      obtain ⟨henter, hcall⟩ := h
      have hden : DenL Γ ρ (first ++ as.toList.map (evo fr) ++ cap) (va.toList ++ as.toList.map a.eval ++ vc.toList) := (g3.append m1).append g4
      have hbd : bdL nx (first ++ as.toList.map (evo fr) ++ cap) = true := bdL_append (bdL_append g1b.1 m2) g1b.2
      have hrun : (execOp a.eval o).run P w = .ok (.enter f' (va.toList ++ as.toList.map a.eval ++ vc.toList).toArray) w := by
        have he := henter.run (va.toList ++ as.toList.map a.eval ++ vc.toList).toArray w
        simp only [execOp, ho, resolve, g2, Deferred.ofValue, Sem.run_bind, Sem.run_pure, Result.andThen_ok, invoke]
        rw [← he]
        congr 2
        apply Array.toList_inj.1
        simp
      refine ⟨fun _ _ => trivial, ?_⟩
      rw [Oper.semAt_eq _ _ _ (fun c hc => by rw [ho] at hc; cases hc), hrun, Oper.uponIn_enter]
      refine ⟨(fun hd => by cases hd), calls_fnc ?_⟩
      refine (hcall Γ ρ w _ hi hden hbd).mono ?_
      rintro e w' ⟨v, sv, Γ', ρ', mem', nx', rfl, h1, h2, h3, h4, h5, h6, h7, h8, h9⟩
      exact hnext v sv Γ' ρ' mem' nx' w' h1 h2 h3 h4 h5 h6 h7 h8 h9
    · cases hc
  · cases hc

theorem xw_draw_core (hm : P.follows .mixedOrders = true) {id : Nat} {K : XE → St → Prop} {fr fr2 : Fr} (ss : List SV) (hd : drawOk N ops = true) (hq : QAll P N ops mem nx ops.toList ss fr)
    (hsub : ∀ t s, fnd fr2 t = some s → fnd (lexFr fr ops.toList ss) t = some s) (hK : K .normal ⟨fr2, mem, nx⟩) : XW rd P N n0 (.region id ops true) K ⟨fr, mem, nx⟩ := by
  simp only [drawOk, Bool.and_eq_true] at hd
  obtain ⟨⟨⟨⟨hu, hp⟩, hdn⟩, hown⟩, hfit⟩ := hd
  have hlen : ss.length = ops.size := by simpa using hq.len
  have hfitS : ∀ (i : Nat) (o : Oper) (d : Nat), ops[i]? = some o → o.dst = some d → d < N := fun i o d h1 h2 => by
    have := List.all_eq_true.1 hfit o (List.mem_of_getElem? (by simpa using h1))
    rw [h2] at this; simpa using this
  have hdown : ∀ (j : Nat) (o : Oper), ops[j]? = some o → ∀ e ∈ o.after, Region.binds .any e = true → e.on < j := fun j o h1 e he hb => by
    have hj : j < ops.size := (Array.getElem?_eq_some_iff.1 h1).1
    have := List.all_eq_true.1 hdn j (by simpa using hj)
    rw [h1] at this
    rw [Array.all_eq_true'] at this
    have := this e he
    simpa [hb] using this
  have hpair : ∀ (i j : Nat) (oi oj : Oper), i < j → ops[i]? = some oi → ops[j]? = some oj →
      (∀ d, oi.dst = some d → d ∈ oj.looksAt ops → ∃ e ∈ oj.after, e.on = i ∧ Region.binds .any e = true) ∧ (∀ d, oj.dst = some d → d ∈ oi.looksAt ops → ∃ e ∈ oj.after, e.on = i ∧ Region.binds .any e = true) := fun i j oi oj hij h1 h2 => by
    have hj : j < ops.size := (Array.getElem?_eq_some_iff.1 h2).1
    have := List.all_eq_true.1 (List.all_eq_true.1 hp j (by simpa using hj)) i (by simpa using hij)
    rw [h1, h2] at this
    simp only [pairOk, Bool.and_eq_true] at this
    refine ⟨fun d hd hl => ?_, fun d hd hl => ?_⟩
    · have := this.1
      rw [hd] at this
      simp only [Bool.or_eq_true, Bool.not_eq_true', List.contains_eq_mem, decide_eq_false_iff_not, hl, not_true_eq_false, false_or, Array.any_eq_true'] at this
      obtain ⟨e, he, hb⟩ := this
      simp at hb
      exact ⟨e, he, hb.1, hb.2⟩
    · have := this.2
      rw [hd] at this
      simp only [Bool.or_eq_true, Bool.not_eq_true', List.contains_eq_mem, decide_eq_false_iff_not, hl, not_true_eq_false, false_or, Array.any_eq_true'] at this
      obtain ⟨e, he, hb⟩ := this
      simp at hb
      exact ⟨e, he, hb.1, hb.2⟩
  intro Γ0 ρ0 w0 a0 hn hok
  refine wpIn_region_any hm ?_
  -- the end: all are listed
  have hend : ∀ (listed : Array Bool) (Γ : Gh) (ρ : Env) (w : World) (a : Act), QInv N ops mem nx fr ss Γ ρ w a listed → Nxt n0 Γ0 ρ0 ⟨fr, mem, nx⟩ w0 Γ ρ ⟨fr2, mem, nx⟩ w → (∀ j, j < ops.size → listed.getD j true = true) → XPost N n0 K Γ0 ρ0 ⟨fr, mem, nx⟩ w0 .normal a w := by
    intro listed Γ ρ w a hI hN hall
    refine ⟨.normal, Γ, ρ, ⟨fr2, mem, nx⟩, rfl, ⟨hI.inv, hI.defers, hI.size, fun t s ht => ?_⟩, hN, hK⟩
    have ht' := hsub t s ht
    rcases fnd_lex (fr := fr) hu (by simpa using hlen) t with ⟨j, oj, sj, h1, h2, h3, h4⟩ | ⟨h1, h2⟩
    · rw [h4] at ht'; cases ht'
      have hj : ops[j]? = some oj := by simpa using h1
      exact hI.new j oj _ t hj h2 (hall j (Array.getElem?_eq_some_iff.1 hj).1) h3
    · rw [h2] at ht'
      exact hI.old t s ht' (fun j o hj hdj => absurd hdj (h1 j o (by simpa using hj)))
  have key : ∀ (fuel : Nat) (U : List Nat) (listed : Array Bool) (Γ : Gh) (ρ : Env) (w : World) (a : Act), U.length ≤ fuel → (∀ j, j < ops.size → listed.getD j true = false → j ∈ U) → QInv N ops mem nx fr ss Γ ρ w a listed → Nxt n0 Γ0 ρ0 ⟨fr, mem, nx⟩ w0 Γ ρ ⟨fr2, mem, nx⟩ w →
      wpAnyIn (fnc rd) 0 P .any ops (XPost N n0 K Γ0 ρ0 ⟨fr, mem, nx⟩ w0) fuel listed a w := by
    intro fuel
    induction fuel with
    | zero =>
      intro U listed Γ ρ w a hU hUm hI hN
      have hall : ∀ j, j < ops.size → listed.getD j true = true := fun j hj => by
        cases hq : listed.getD j true with
        | true => rfl
        | false =>
          have := hUm j hj hq
          rw [List.eq_nil_of_length_eq_zero (Nat.le_zero.1 hU)] at this
          cases this
      refine ⟨?_, hend listed Γ ρ w a hI hN hall⟩
      refine List.eq_nil_iff_forall_not_mem.2 fun i hi => ?_
      obtain ⟨h1, o, h2, _⟩ := mem_ready' hi
      rw [hall i (Array.getElem?_eq_some_iff.1 h2).1] at h1
      cases h1
    | succ fuel ih =>
      intro U listed Γ ρ w a hU hUm hI hN
      refine ⟨fun hr => hend listed Γ ρ w a hI hN ?_, fun i hi => ?_⟩
      · intro j
        induction j using Nat.strongRecOn with
        | _ j jh =>
          intro hj
          cases hq : listed.getD j true with
          | true => rfl
          | false =>
            exfalso
            have : j ∈ Region.ready .any ops listed := by
              unfold Region.ready
              rw [List.mem_filter]
              refine ⟨by simpa using hj, ?_⟩
              simp only [hq, Bool.not_false, Bool.true_and]
              rw [Array.getElem?_eq_getElem hj]
              simp only [Option.map_some, Option.getD_some, Array.all_eq_true']
              intro e he
              cases hb : Region.binds .any e with
              | false => rfl
              | true =>
                have hlt := hdown j _ (Array.getElem?_eq_getElem hj) e he hb
                have := getD_false_of_true (by rw [hI.lsize]; omega) (jh e.on hlt (by omega))
                simpa using this
            rw [hr] at this; cases this
      · obtain ⟨hun, o, ho, hready⟩ := mem_ready' hi
        have hil : i < ops.size := (Array.getElem?_eq_some_iff.1 ho).1
        have hsi : ∃ s, ss[i]? = some s := ⟨_, List.getElem?_eq_getElem (by omega)⟩
        obtain ⟨s, hs⟩ := hsi
        have hstep := hq.at i o s (by simpa using ho) hs
        -- the frame of the operation's own slots
        have hfr : FrDen Γ ρ nx N (rs (lexFr fr (ops.toList.take i) (ss.take i)) (o.looksAt ops)) a := by
          refine ⟨hI.size, fun t x hx => ?_⟩
          obtain ⟨hmem, hx⟩ := fnd_rs _ _ _ _ hx
          rcases fnd_lex (fr := fr) (uniq_take i hu) (by simp; omega) t (l := ops.toList.take i) (ss := ss.take i) with ⟨j, oj, sj, h1, h2, h3, h4⟩ | ⟨h1, h2⟩
          · rw [h4] at hx; cases hx
            have hji : j < i := by
              have := (List.getElem?_eq_some_iff.1 h1).1
              simp at this; omega
            have hj : ops[j]? = some oj := by
              rw [List.getElem?_take_of_lt hji] at h1; simpa using h1
            rw [List.getElem?_take_of_lt hji] at h2
            obtain ⟨e, he, he1, he2⟩ := (hpair j i oj o hji hj ho).1 t h3 hmem
            have hl := hready e he he2
            rw [he1] at hl
            exact hI.new j oj _ t hj h2 (getD_true_of_false hl) h3
          · rw [h2] at hx
            refine hI.old t x hx (fun j oj hj hdj => ?_)
            by_cases hji : j < i
            · exact absurd hdj (h1 j oj (by rw [List.getElem?_take_of_lt hji]; simpa using hj))
            · by_cases hje : j = i
              · subst hje; exact hun
              · obtain ⟨e, he, he1, he2⟩ := (hpair i j o oj (by omega) ho hj).2 t hdj hmem
                cases hq2 : listed.getD j true with
                | false => rfl
                | true =>
                  have := hI.down j oj hj hq2 e he he2
                  rw [he1] at this
                  rw [getD_true_of_false this] at hun
                  cases hun
        have hU' : (U.erase i).length ≤ fuel := by
          rw [List.length_erase_of_mem (hUm i hil hun)]; omega
        have hUm' : ∀ j, j < ops.size → (listed.setIfInBounds i true).getD j true = false → j ∈ U.erase i := fun j hj hj2 => by
          rw [getD_set listed i j (by rw [hI.lsize]; exact hil)] at hj2
          split at hj2
          · cases hj2
          · rename_i hne
            exact (List.mem_erase_of_ne hne).2 (hUm j hj hj2)
        unfold wpOpIn
        rw [ho]
        simp only []
        rcases hstep with ⟨hg, rfl⟩ | ⟨hg, hstep⟩
        · rw [gd_sound hfr hg, if_neg Bool.false_ne_true]
          refine ⟨fun _ _ => trivial, ?_⟩
          have hu' := undef_den (Γ := Γ) (ρ := ρ) (n := nx)
          exact ih _ _ Γ ρ w _ hU' hUm' (hI.step hu hfitS ho hs hready (Stp.refl _ _ _) hI.inv (Gh.le_refl _) (Env.same_refl _ _) hu'.1 hu'.2) hN
        · rw [gd_sound hfr hg, if_pos rfl]
          rcases hstep with hop | ⟨f, args, hc, hcall⟩
          · obtain ⟨v, r, Γ', ρ', w', h1, h2, h3, h4, h5, h6, h7, h8, h9, h10⟩ := hop Γ ρ w a hI.inv hfr
            have hgo := ih _ _ Γ' ρ' w' _ hU' hUm' (hI.step hu hfitS ho hs hready h8 h5 h9 h6 h3 h4) (hN.trans ⟨h8, h9, Env.same_mono hn h6, hn, h10⟩)
            refine ⟨fun _ _ => trivial, ?_⟩
            rw [sem_round h1 h2]
            rcases h2 with rfl | ⟨rfl, rfl⟩
            · exact hgo
            · exact hgo
          · refine wp_of_call hc hcall hI.inv hfr ?_
            rintro v sv Γ' ρ' mem' nx' w' h1 h2 h3 h4 h5 h6 h7 h8 ⟨rfl, rfl, rfl⟩
            exact ih _ _ Γ' ρ' w' _ hU' hUm' (hI.step hu hfitS ho hs hready h4 h1 h5 h6 h2 h3) (hN.trans ⟨h4, h5, Env.same_mono hn h6, hn, h8⟩)
  refine key ops.size (List.range ops.size) _ Γ0 ρ0 w0.drew a0 (by simp) (fun j hj _ => by simpa using hj) ?_ ?_
  · refine ⟨⟨hok.inv.pub, hok.inv.priv, hok.inv.inj⟩, hok.marks, hok.frame.size, fun t s ht _ => hok.frame.slot t s ht, fun j o s d hj _ hl _ => ?_, fun j o hj hl => ?_, by simp⟩
    · have := (Array.getElem?_eq_some_iff.1 hj).1
      simp [this] at hl
    · have := (Array.getElem?_eq_some_iff.1 hj).1
      simp [this] at hl
  · exact ⟨⟨rfl, rfl, rfl, Nat.le_refl _, fun _ _ _ => rfl, fun b hb => .inl hb⟩, Gh.le_refl _, Env.same_refl _ _, hn, fun _ hb => .inl hb⟩
end
end Go.Proofs.Ytjchmajamlehmaa.X
