/- The user's rules for regions that draw their order. -/
import Derived.Test.YtjchmajamlehmaaXn
namespace Go.Proofs.Ytjchmajamlehmaa.X
open Go Go.RowKit

def quietOp : Op → Bool
  | .move _ | .assign _ | .pick _ _ _ | .load _ _ | .fieldAddr _ _ _ | .indexAddr _ _ _ | .unOp _ _ _ | .binOp _ _ _ _ _ | .convert _ _ _ | .build _ _ | .slice _ _ _ _ _ | .makeFunc _ _ _ | .extract _ _ | .field _ _ _ | .nilCheck _ | .lookup _ _ _ _ => true
  | .call ⟨.builtin .len, _, _⟩ | .call ⟨.builtin .max, _, _⟩ | .call ⟨.builtin .min, _, _⟩ => true
  | _ => false

theorem quiet_same1 {T : Tab} {fr : Fr} {mem : Mem} {nx : Nat} {o : Op} {q sv : SV} {mem' : Mem} {nx' : Nat} {k : Prop} (h : xop1 T fr mem nx o q = some (sv, mem', nx', k)) (hq : quietOp o = true) : mem' = mem ∧ nx' = nx := by
  have fin : ∀ {x y : SV} {m m' : Mem} {n n' : Nat} {p r : Prop}, some (x, m, n, p) = some (y, m', n', r) → m' = m ∧ n' = n := fun h => by
    simp only [Option.some.injEq, Prod.mk.injEq] at h; exact ⟨h.2.1.symm, h.2.2.1.symm⟩
  unfold xop1 at h
  split at h
  · exact fin h
  · exact fin h
  · unfold xpick at h; repeat' split at h
    all_goals first | exact fin h | cases h
  · cases hq
  · cases hq
  · unfold xload at h; repeat' split at h
    all_goals first | exact fin h | cases h
  · cases hq
  · unfold xfieldAddr at h; repeat' split at h
    all_goals first | exact fin h | cases h
  · unfold xindexAddr at h; repeat' split at h
    all_goals first | exact fin h | cases h
  · unfold xnot at h; repeat' split at h
    all_goals first | exact fin h | cases h
  · unfold xbinOp at h; repeat' split at h
    all_goals first | exact fin h | cases h
  · unfold xconv at h; repeat' split at h
    all_goals first | exact fin h | cases h
  · unfold xbuild at h; repeat' split at h
    all_goals first | exact fin h | cases h
  · cases hq
  · cases hq
  · unfold xslice at h; repeat' split at h
    all_goals first | exact fin h | cases h
  · exact fin h
  · unfold xextract at h; repeat' split at h
    all_goals first | exact fin h | cases h
  · unfold xfield at h; repeat' split at h
    all_goals first | exact fin h | cases h
  · unfold xlen at h; repeat' split at h
    all_goals first | exact fin h | cases h
  · unfold xmm at h; repeat' split at h
    all_goals first | exact fin h | cases h
  · unfold xmm at h; repeat' split at h
    all_goals first | exact fin h | cases h
  · cases h

def quietF (fr : Fr) (o : Op) : Bool := match o with
  | .slice _ x none (some _) none => match evo fr x with
    | .own _ => false
    | _ => true
  | o => quietOp o
theorem quiet_same {T : Tab} {fr : Fr} {mem : Mem} {nx : Nat} {o : Op} {q sv : SV} {mem' : Mem} {nx' : Nat} {k : Prop} (h : xop2 T fr mem nx o q = some (sv, mem', nx', k)) (hq : quietF fr o = true) : mem' = mem ∧ nx' = nx := by
  have fin : ∀ {x y : SV} {m m' : Mem} {n n' : Nat} {p r : Prop}, some (x, m, n, p) = some (y, m', n', r) → m' = m ∧ n' = n := fun h => by
    simp only [Option.some.injEq, Prod.mk.injEq] at h; exact ⟨h.2.1.symm, h.2.2.1.symm⟩
  unfold xop2 at h
  split at h
  · cases hq
  · cases hq
  · cases hq
  · cases hq
  · cases hq
  · split at h
    · unfold xidxc at h; repeat' split at h
      all_goals first | exact fin h | cases h
    · exact quiet_same1 h rfl
  · split at h
    · unfold xlenc at h; repeat' split at h
      all_goals first | exact fin h | cases h
    · exact quiet_same1 h rfl
  · cases hq
  · cases hq
  · split at h
    · unfold xosub at h; repeat' split at h
      all_goals first | exact fin h | cases h
    · exact quiet_same1 h rfl
  · simp only [quietF] at hq
    split at h
    · rename_i hx; rw [hx] at hq; cases hq
    · exact quiet_same1 h rfl
  · split at h
    · unfold xnilcmp at h; repeat' split at h
      all_goals first | exact fin h | cases h
    · exact quiet_same1 h rfl
  · split at h
    · unfold xnilcmp at h; repeat' split at h
      all_goals first | exact fin h | cases h
    · exact quiet_same1 h rfl
  · cases hq
  · unfold xlookup at h; repeat' split at h
    all_goals first | exact fin h | cases h
  · cases hq
  · cases hq
  · unfold xnil at h; repeat' split at h
    all_goals first | exact fin h | cases h
  · refine quiet_same1 h ?_
    unfold quietF at hq
    split at hq
    · rfl
    · exact hq

section
variable {rd : Option Nat} {P : Program} {T : Tab} {N n0 : Nat} {ops : Array Oper} {mem : Mem} {nx : Nat}

def QO (P : Program) (N : Nat) (ops : Array Oper) (mem : Mem) (nx : Nat) (l : List Oper) (K : Fr → Prop) (fr : Fr) : Prop :=
  ∃ ss fr2, QAll P N ops mem nx l ss fr ∧ (∀ t s, fnd fr2 t = some s → fnd (lexFr fr l ss) t = some s) ∧ K fr2

theorem q_nil {K : Fr → Prop} {fr : Fr} (h : K fr) : QO P N ops mem nx [] K fr := ⟨[], fr, trivial, fun _ _ h => h, h⟩

theorem q_step {o : Oper} {l : List Oper} {K : Fr → Prop} {fr : Fr} {sv : SV} (hs : QStep P N ops mem nx fr o sv) (h : QO P N ops mem nx l K (putO fr o.dst sv)) : QO P N ops mem nx (o :: l) K fr := by
  obtain ⟨ss, fr2, h1, h2, h3⟩ := h
  exact ⟨sv :: ss, fr2, ⟨hs, h1⟩, h2, h3⟩

def xqrun (T : Tab) (ops : Array Oper) (mem : Mem) (nx : Nat) (orc : List (Nat × SV)) : Nat → Nat → List Oper → Fr → Option (List Oper × Fr × List Prop)
  | 0, _, l, fr => some (l, fr, [])
  | _ + 1, _, [], _ => none
  | n + 1, i, o :: l, fr => match gd ops (rs fr (o.looksAt ops)) o.guard with
    | some true => match quietF (rs fr (o.looksAt ops)) o.op with
      | true => match xop2 T (rs fr (o.looksAt ops)) mem nx o.op (match fnd orc i with | some q => q | none => .junk) with
        | some (sv, _, _, k) => match xqrun T ops mem nx orc n (i + 1) l (putO fr o.dst sv) with
          | some (l', fr', ks) => match noc o.op with
            | true => some (l', fr', ks)
            | false => some (l', fr', k :: ks)
          | none => none
        | none => none
      | false => none
    | some false => xqrun T ops mem nx orc n (i + 1) l (putO fr o.dst (.tup []))
    | none => none

theorem q_run (hT : TabOk P T) (orc : List (Nat × SV)) : ∀ (n i : Nat) (l : List Oper) (fr : Fr) (l' : List Oper) (fr' : Fr) (ks : List Prop) {K : Fr → Prop}, xqrun T ops mem nx orc n i l fr = some (l', fr', ks) → All ks → QO P N ops mem nx l' K fr' → QO P N ops mem nx l K fr
  | 0, _, l, fr, l', fr', ks, K, h, _, hx => by
    simp only [xqrun, Option.some.injEq, Prod.mk.injEq] at h
    obtain ⟨rfl, rfl, rfl⟩ := h
    exact hx
  | n + 1, _, [], fr, l', fr', ks, K, h, _, _ => by simp [xqrun] at h
  | n + 1, i, o :: l, fr, l', fr', ks, K, h, hk, hx => by
    simp only [xqrun] at h
    split at h
    · rename_i hg
      split at h
      · rename_i hqo
        split at h
        · rename_i sv mem' nx' k hop
          split at h
          · rename_i l1 fr1 ks1 hr
            obtain ⟨hq1, hq2⟩ := quiet_same hop hqo
            rw [hq1, hq2] at hop
            have hkk : k ∧ All ks1 ∧ l1 = l' ∧ fr1 = fr' := by
              split at h
              · rename_i hc
                simp only [Option.some.injEq, Prod.mk.injEq] at h
                obtain ⟨rfl, rfl, rfl⟩ := h
                exact ⟨noc_true2 hop hc, hk, rfl, rfl⟩
              · simp only [Option.some.injEq, Prod.mk.injEq] at h
                obtain ⟨rfl, rfl, rfl⟩ := h
                exact ⟨hk.1, hk.2, rfl, rfl⟩
            obtain ⟨hk1, hk2, rfl, rfl⟩ := hkk
            exact q_step (.inr ⟨hg, .inl (xop2_sound hT hop hk1)⟩) (q_run hT orc n (i + 1) l _ _ _ ks1 hr hk2 hx)
          · cases h
        · cases h
      · cases h
    · rename_i hg
      exact q_step (.inl ⟨hg, rfl⟩) (q_run hT orc n (i + 1) l _ _ _ ks h hk hx)
    · cases h

theorem q_callx {o : Oper} {l : List Oper} {K : Fr → Prop} {fr : Fr} {f : Nat} {args : List SV} {sv : SV} (hg : gd ops (rs fr (o.looksAt ops)) o.guard = some true) (hc : callee (rs fr (o.looksAt ops)) o.op = some (f, args))
    (h : XCall P f args mem nx (fun s m n => s = sv ∧ m = mem ∧ n = nx)) (hx : QO P N ops mem nx l K (putO fr o.dst sv)) : QO P N ops mem nx (o :: l) K fr :=
  q_step (.inr ⟨hg, .inr ⟨f, args, hc, h⟩⟩) hx

theorem xw_draw (hm : P.follows .mixedOrders = true) {id : Nat} {K : XE → St → Prop} {fr : Fr} (hd : drawOk N ops = true) (h : QO P N ops mem nx ops.toList (fun fr2 => K .normal ⟨fr2, mem, nx⟩) fr) : XW rd P N n0 (.region id ops true) K ⟨fr, mem, nx⟩ := by
  obtain ⟨ss, fr2, h1, h2, h3⟩ := h
  exact xw_draw_core hm ss hd h1 h2 h3
end
end Go.Proofs.Ytjchmajamlehmaa.X
