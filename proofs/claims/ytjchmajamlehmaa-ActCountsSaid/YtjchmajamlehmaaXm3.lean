/- Short steps for printed proofs. -/
import Derived.Test.YtjchmajamlehmaaXm2
namespace Go.Proofs.Ytjchmajamlehmaa.X
open Go Go.RowKit

abbrev SV.i (n : Int) : SV := .int .i64 n
abbrev SV.u (n : Int) : SV := .int .u64 n
abbrev SV.p (r : Nat) : SV := .loc r 0
abbrev SV.t : SV := .bool true
abbrev SV.f : SV := .bool false
abbrev r5 (s b l p q : Int) : List SV := [.int .i64 s, .int .i64 b, .int .i64 l, .int .i64 p, .int .i64 q]
abbrev z8 : List SV := [.int .i64 0, .nils, .nils, .int .i64 0, .int .i64 0, .int .i64 0, .int .i64 0, .int .i64 0]

def dstAt (ops : Array Oper) (i : Nat) : Option Nat := match ops.toList[i]? with
  | some o => o.dst
  | none => none

section
variable {rd : Option Nat} {P : Program} {T : Tab} {N n0 : Nat} {ops : Array Oper}
theorem en {i : Nat} {K : St → Prop} {s : St} (hk : K s) (h : ops.toList.drop i = [] := by kernel_rfl) : XOi rd P N n0 ops i K s := endr h hk
theorem qen {mem : Mem} {nx : Nat} {i : Nat} {K : Fr → Prop} {fr : Fr} (hk : K fr) (h : ops.toList.drop i = [] := by kernel_rfl) : QOi P N ops mem nx i K fr := qend h hk
theorem sen {sg : List (Mem × Nat)} {ws : List Nat} {bf : List (Nat × List Nat)} {i : Nat} {K : Fr → Prop} {fr : Fr} (hk : K fr) (h : ops.toList.drop i = [] := by kernel_rfl) : SO P N ops sg ws bf i K fr := send h hk
theorem pc {i : Nat} {K : St → Prop} {s : St} {f : Nat} {args : List SV} {sv : SV} (hp : Pub P f args (fun t => t = sv)) (hk : XOi rd P N n0 ops (i + 1) K ⟨putO s.fr (dstAt ops i) sv, s.mem, s.nx⟩)
    (h : callAt N ops s.fr i = some (f, args, dstAt ops i) := by kernel_rfl) (hb : bdL 0 args = true := by kernel_rfl) : XOi rd P N n0 ops i K s := pcall0 hp h hb hk
theorem qc {mem : Mem} {nx : Nat} {i : Nat} {K : Fr → Prop} {fr : Fr} {f : Nat} {args : List SV} {sv : SV} (hp : Pub P f args (fun t => t = sv)) (hk : QOi P N ops mem nx (i + 1) K (putO fr (dstAt ops i) sv))
    (h : qcallAt ops fr i = some (f, args, dstAt ops i) := by kernel_rfl) (hb : bdL 0 args = true := by kernel_rfl) : QOi P N ops mem nx i K fr := pqcall0 hp h hb hk
theorem sc {sg : List (Mem × Nat)} {ws : List Nat} {bf : List (Nat × List Nat)} {i : Nat} {K : Fr → Prop} {fr : Fr} {f : Nat} {args : List SV} {sv : SV} (hp : Pub P f args (fun t => t = sv)) (hk : SO P N ops sg ws bf (i + 1) K (putO fr (dstAt ops i) sv))
    (h : qcallAt ops fr i = some (f, args, dstAt ops i) := by kernel_rfl) (hno : wIdx i 0 ws = none := by kernel_rfl) (hb : bdL 0 args = true := by kernel_rfl) : SO P N ops sg ws bf i K fr := scall0 hp h hno hb hk
theorem ct {K : XE → St → Prop} {s : St} {c : Operand} {x y : Code} (ht : XW rd P N n0 x K s) (hc : evo s.fr c = .bool true := by kernel_rfl) : XW rd P N n0 (.cond c x y) K s := xw_true hc ht
theorem cf {K : XE → St → Prop} {s : St} {c : Operand} {x y : Code} (hf : XW rd P N n0 y K s) (hc : evo s.fr c = .bool false := by kernel_rfl) : XW rd P N n0 (.cond c x y) K s := xw_false hc hf
theorem bs {rs : Array ResultVar} {R : SV → Prop} {s : St} (x : SV) (h4 : R x) (h1 : xres T s rs = some x := by kernel_rfl) (h2 : pubS s.mem x = some x := by kernel_rfl) : Back T rs R .ret s := ⟨x, x, x, h1, h2, fun _ _ h => h, h4⟩
theorem br {rs : Array ResultVar} {R : SV → Prop} {s : St} (x t : SV) (h3 : WkD x t) (h4 : R t) (h1 : xres T s rs = some x := by kernel_rfl) (h2 : pubS s.mem x = some x := by kernel_rfl) : Back T rs R .ret s := ⟨x, x, t, h1, h2, h3, h4⟩
theorem rk_ (hT : TabOk P T) (orc : List (Nat × SV)) (n i : Nat) {s : St} (s' : St) (ks : List Prop) {K : St → Prop} (hk : All ks) (hx : XOi rd P N n0 ops (i + n) K s')
    (h : xrunk T N ops orc n i (s'.fr.map Prod.fst) (s'.mem.map Prod.fst) s = some (s', ks) := by kernel_rfl) : XOi rd P N n0 ops i K s := runk hT orc n i _ _ s' ks h hk hx
theorem rg_ (hT : TabOk P T) (orc : List (Nat × SV)) (n : Nat) {id : Nat} {y : Code} {s : St} (s' : St) (ks : List Prop) {K : XE → St → Prop} (hk : All ks) (hx : XW rd P N n0 y K s')
    (h : xrunk T N ops orc n 0 (s'.fr.map Prod.fst) (s'.mem.map Prod.fst) s = some (s', ks) := by kernel_rfl) (hn : ops.toList.drop (0 + n) = [] := by kernel_rfl) : XW rd P N n0 (.seq (.region id ops false) y) K s :=
  xw_seq (reg (runk hT orc n 0 _ _ s' ks h hk (endr hn hx)))
theorem re_ (hT : TabOk P T) (orc : List (Nat × SV)) (n : Nat) {id : Nat} {s : St} (s' : St) (ks : List Prop) {K : XE → St → Prop} (hk : All ks) (hx : K .normal s')
    (h : xrunk T N ops orc n 0 (s'.fr.map Prod.fst) (s'.mem.map Prod.fst) s = some (s', ks) := by kernel_rfl) (hn : ops.toList.drop (0 + n) = [] := by kernel_rfl) : XW rd P N n0 (.region id ops false) K s :=
  reg (runk hT orc n 0 _ _ s' ks h hk (endr hn hx))
abbrev sm {α : Sort _} (a : α) : Prop := a = a
abbrev fi : Prop := false = true → false = true
def ksO {α : Type} : Option (α × List Prop) → Option (List Prop)
  | some (_, k) => some k
  | none => none
def stO {α : Type} (r : Option (α × List Prop)) (d : α) : α := match r with
  | some (s, _) => s
  | none => d
theorem stO_of {α : Type} {r : Option (α × List Prop)} {ks : List Prop} (d : α) (h : ksO r = some ks) : r = some (stO r d, ks) := by
  cases r with
  | none => cases h
  | some q => cases h; rfl
theorem rki_ (hT : TabOk P T) (orc : List (Nat × SV)) (n i : Nat) {s : St} (kf km : List Nat) (ks : List Prop) {K : St → Prop} (hk : All ks) (hx : XOi rd P N n0 ops (i + n) K (stO (xrunk T N ops orc n i kf km s) s))
    (h : ksO (xrunk T N ops orc n i kf km s) = some ks := by kernel_rfl) : XOi rd P N n0 ops i K s := runk hT orc n i kf km _ ks (stO_of s h) hk hx
theorem rgi_ (hT : TabOk P T) (orc : List (Nat × SV)) (n : Nat) {id : Nat} {y : Code} {s : St} (kf km : List Nat) (ks : List Prop) {K : XE → St → Prop} (hk : All ks) (hx : XW rd P N n0 y K (stO (xrunk T N ops orc n 0 kf km s) s))
    (h : ksO (xrunk T N ops orc n 0 kf km s) = some ks := by kernel_rfl) (hn : ops.toList.drop (0 + n) = [] := by kernel_rfl) : XW rd P N n0 (.seq (.region id ops false) y) K s :=
  xw_seq (reg (runk hT orc n 0 kf km _ ks (stO_of s h) hk (endr hn hx)))
theorem rei_ (hT : TabOk P T) (orc : List (Nat × SV)) (n : Nat) {id : Nat} {s : St} (kf km : List Nat) (ks : List Prop) {K : XE → St → Prop} (hk : All ks) (hx : K .normal (stO (xrunk T N ops orc n 0 kf km s) s))
    (h : ksO (xrunk T N ops orc n 0 kf km s) = some ks := by kernel_rfl) (hn : ops.toList.drop (0 + n) = [] := by kernel_rfl) : XW rd P N n0 (.region id ops false) K s :=
  reg (runk hT orc n 0 kf km _ ks (stO_of s h) hk (endr hn hx))
theorem qri_ (hT : TabOk P T) {mem : Mem} {nx : Nat} (orc : List (Nat × SV)) (n i : Nat) {fr : Fr} (ks : List Prop) {K : Fr → Prop} (hk : All ks) (hx : QOi P N ops mem nx (i + n) K (stO (xqruni T ops mem nx orc n i fr) fr)) (h : ksO (xqruni T ops mem nx orc n i fr) = some ks := by kernel_rfl) : QOi P N ops mem nx i K fr := qrun hT orc n i fr _ ks (stO_of fr h) hk hx
theorem sri_ (hT : TabOk P T) {sg : List (Mem × Nat)} {ws : List Nat} {bf : List (Nat × List Nat)} (orc : List (Nat × SV)) (n i : Nat) {fr : Fr} (ks : List Prop) {K : Fr → Prop} (hk : All ks) (hx : SO P N ops sg ws bf (i + n) K (stO (xsrun T ops sg ws bf orc n i fr) fr)) (h : ksO (xsrun T ops sg ws bf orc n i fr) = some ks := by kernel_rfl) : SO P N ops sg ws bf i K fr := srun hT orc n i _ ks (stO_of fr h) hk hx
end

set_option linter.unusedVariables false

def headErr (t l m : Int) : Int :=
  if (t ≠ 255 ∧ (t < 1 ∨ 200 < t)) ∨ l < 0 then 1
  else if t = 255 then (if 65535 < l then 3 else if m = 0 then 0 else 8)
  else if 16 < l then 3 else if m < 2 ^ l.toNat then 0 else 8
theorem pow16 {l : Int} (h0 : 0 ≤ l) (h1 : l ≤ 16) : (2 : Int) ^ l.toNat ≤ 65536 := by
  obtain ⟨k, rfl⟩ := Int.eq_ofNat_of_zero_le h0
  have hk : k ≤ 16 := by omega
  have : (2 : Nat) ^ k ≤ 2 ^ 16 := Nat.pow_le_pow_right (by decide) hk
  have e : ((2 : Int) ^ (Int.toNat (k : Int))) = ((2 ^ k : Nat) : Int) := by simp
  rw [e]; omega
theorem ptr_eq {m i : Int} (h0 : 0 ≤ i) (h1 : i < 64) : m.fdiv (2 ^ min i.toNat IntKind.u64.bits) = m / 2 ^ i.toNat := by
  have e : min i.toNat IntKind.u64.bits = i.toNat := Nat.min_eq_left (by show i.toNat ≤ 64; omega)
  have hp : (0 : Int) < 2 ^ i.toNat := Int.pow_pos (by decide)
  rw [e, Int.fdiv_eq_ediv_of_nonneg _ (Int.le_of_lt hp)]
def isPtr (l m i : Int) : Bool := decide (0 ≤ i ∧ i < l ∧ i < 64 ∧ (m / 2 ^ i.toNat) % 2 = 1)
theorem headErr_cases (t l m : Int) (hm : 0 ≤ m) : (((t = 255 ∧ 0 ≤ l ∧ l ≤ 65535 ∧ m = 0) ∨ (1 ≤ t ∧ t ≤ 200 ∧ 0 ≤ l ∧ l ≤ 16 ∧ m < 2 ^ l.toNat ∧ m < 65536)) ∧ headErr t l m = 0) ∨ (¬ ((t = 255 ∧ 0 ≤ l ∧ l ≤ 65535 ∧ m = 0) ∨ (1 ≤ t ∧ t ≤ 200 ∧ 0 ≤ l ∧ l ≤ 16 ∧ m < 2 ^ l.toNat ∧ m < 65536)) ∧ headErr t l m ≠ 0) := by
  have hp := @pow16 l
  unfold headErr
  by_cases h1 : (t ≠ 255 ∧ (t < 1 ∨ 200 < t)) ∨ l < 0
  · rw [if_pos h1]; right; refine ⟨by omega, by omega⟩
  · rw [if_neg h1]
    by_cases h2 : t = 255
    · rw [if_pos h2]
      by_cases h3 : 65535 < l
      · rw [if_pos h3]; right; refine ⟨by omega, by omega⟩
      · rw [if_neg h3]
        by_cases h4 : m = 0
        · rw [if_pos h4]; left; refine ⟨by omega, rfl⟩
        · rw [if_neg h4]; right; refine ⟨by omega, by omega⟩
    · rw [if_neg h2]
      by_cases h3 : 16 < l
      · rw [if_pos h3]; right; refine ⟨by omega, by omega⟩
      · rw [if_neg h3]
        by_cases h4 : m < 2 ^ l.toNat
        · rw [if_pos h4]; left; refine ⟨.inr ⟨by omega, by omega, by omega, by omega, h4, ?_⟩, rfl⟩
          have := hp (by omega) (by omega); omega
        · rw [if_neg h4]; right; refine ⟨by omega, by omega⟩
theorem headErr_ne {t l m : Int} (hm : 0 ≤ m) (h : ¬ ((t = 255 ∧ 0 ≤ l ∧ l ≤ 65535 ∧ m = 0) ∨ (1 ≤ t ∧ t ≤ 200 ∧ 0 ≤ l ∧ l ≤ 16 ∧ m < 2 ^ l.toNat ∧ m < 65536))) : headErr t l m ≠ 0 := by
  rcases headErr_cases t l m hm with h1 | h1
  · exact absurd h1.1 h
  · exact h1.2
theorem shr_zero {l m : Int} (h0 : 0 ≤ l) (h1 : l ≤ 16) (hm : 0 ≤ m) : m.fdiv (2 ^ min l.toNat IntKind.u64.bits) = 0 ↔ m < 2 ^ l.toNat := by
  have e : min l.toNat IntKind.u64.bits = l.toNat := Nat.min_eq_left (by show l.toNat ≤ 64; omega)
  have hp : (0 : Int) < 2 ^ l.toNat := Int.pow_pos (by decide)
  rw [e, Int.fdiv_eq_ediv_of_nonneg _ (Int.le_of_lt hp)]
  constructor
  · intro h
    have := Int.lt_ediv_add_one_mul_self m hp
    rw [h] at this; omega
  · intro h
    exact Int.ediv_eq_zero_of_lt hm h

theorem take_step {xs us : List Int} {i : Int} (h : xs.take i.toNat = us.take i.toNat) (h0 : 0 ≤ i) (hx : i < (xs.length : Int)) (hu : i < (us.length : Int)) (e : ix xs i = ix us i) : xs.take (i + 1).toNat = us.take (i + 1).toNat := by
  have hn : (i + 1).toNat = i.toNat + 1 := by omega
  have h1 : i.toNat < xs.length := by omega
  have h2 : i.toNat < us.length := by omega
  rw [hn, List.take_add_one, List.take_add_one, h]
  unfold ix at e
  have e' : xs[i.toNat] = us[i.toNat] := by simpa [h1, h2] using e
  rw [List.getElem?_eq_getElem h1, List.getElem?_eq_getElem h2, e']
theorem take_all {xs us : List Int} {i : Int} (h : xs.take i.toNat = us.take i.toNat) (hx : (xs.length : Int) ≤ i) (hu : (us.length : Int) ≤ i) : xs = us := by
  rwa [List.take_of_length_le (by omega), List.take_of_length_le (by omega)] at h

theorem splice1 {xs : List Int} {p v : Int} (h0 : 0 ≤ p) (h1 : p < (xs.length : Int)) : ((([] ++ (List.map (SV.int .u64) xs)) : List SV).take p.toNat ++ ([SV.int .u64 v] : List SV).take ((([] ++ (List.map (SV.int .u64) xs)) : List SV).length - p.toNat) ++ (([] ++ (List.map (SV.int .u64) xs)) : List SV).drop (p.toNat + (([SV.int .u64 v] : List SV).take ((([] ++ (List.map (SV.int .u64) xs)) : List SV).length - p.toNat)).length)) = List.map (SV.int .u64) (st xs p v) := by
  obtain ⟨k, hk⟩ : ∃ k, xs.length - p.toNat = k + 1 := ⟨xs.length - p.toNat - 1, by omega⟩
  have hp : p.toNat < xs.length := by omega
  simp only [List.nil_append, List.length_map, hk, List.take_succ_cons, List.take_nil, List.length_cons, List.length_nil, st]
  rw [List.set_eq_take_append_cons_drop, if_pos hp]
  simp

theorem stx_ok (W : Int) (xs ys : List Int) (a v : Int) (h1 : (xs.length : Int) = W) (h2 : (ys.length : Int) = W) (h3 : U64s xs) (h4 : U64s ys) (hv : 0 ≤ v ∧ v ≤ 18446744073709551615) : ((stx xs a v).length : Int) = W ∧ ((sty ys a v).length : Int) = W ∧ U64s (stx xs a v) ∧ U64s (sty ys a v) :=
  ⟨by rw [len_stx]; exact h1, by rw [len_sty]; exact h2, h3.stx _ hv, h4.sty _ hv⟩
theorem ldw_ok (xs ys : List Int) (a : Int) (h3 : U64s xs) (h4 : U64s ys) : 0 ≤ ldw xs ys a ∧ ldw xs ys a ≤ 18446744073709551615 := h3.ldw h4 a
end Go.Proofs.Ytjchmajamlehmaa.X
