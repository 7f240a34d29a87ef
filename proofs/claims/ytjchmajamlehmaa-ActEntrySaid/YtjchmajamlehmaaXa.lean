/- Symbolic values, what they denote in a world, and the invariant that ties a symbolic memory to a world: over any program. -/
import Derived.WalkKit
import Derived.WideLaws
import Derived.Laws.CopyRow
import Derived.Deep.Quiet
namespace Go.Proofs.Ytjchmajamlehmaa.X
open Go Go.RowKit

inductive SV where
  | int (k : IntKind) (n : Int)
  | bool (b : Bool)
  | loc (r off : Nat)
  | agg (l : List SV)
  | tup (l : List SV)
  | fn (f : Nat) (first cap : List SV)
  | nils
  | sl (x : Bool) (z : Nat) (xs : List SV)
  | own (r : Nat)
  | relt (r z i o : Nat)
  | osub (r z lo n : Nat)
  | elt (s : SV)
  | raw (v : Value)
  | any
  | junk
  deriving Inhabited

def fnd {α : Type} : List (Nat × α) → Nat → Option α
  | [], _ => none
  | (k, v) :: l, n => match Nat.beq k n with
    | true => some v
    | false => fnd l n

theorem fnd_cons {α : Type} (k n : Nat) (v : α) (l : List (Nat × α)) : fnd ((k, v) :: l) n = if k = n then some v else fnd l n := by
  by_cases h : k = n
  · subst h; simp [fnd]
  · cases hb : Nat.beq k n with
    | true => exact absurd (Nat.eq_of_beq_eq_true hb) h
    | false => simp [fnd, hb, h]

structure Gh where
  at_ : Nat → Option (List Value)
  lo : Nat
instance : CoeFun Gh (fun _ => Nat → Option (List Value)) := ⟨Gh.at_⟩
structure Env where
  blk : Nat → Option Nat
  val : Nat → Option Value
def Env.nil : Env := ⟨fun _ => none, fun _ => none⟩

mutual
def Den (Γ : Gh) : Env → SV → Value → Prop
  | _, .int k n, v => v = .int k n
  | _, .bool b, v => v = .bool b
  | ρ, .loc r o, v => ∃ b, ρ.blk r = some b ∧ v = .pointer (some ⟨b, o, none⟩)
  | ρ, .agg l, v => ∃ vs, v = .agg vs ∧ DenL Γ ρ l vs.toList
  | ρ, .tup l, v => ∃ vs, v = .tuple vs ∧ DenL Γ ρ l vs.toList
  | ρ, .fn f a c, v => ∃ va vc, v = .func (.func f) va vc ∧ DenL Γ ρ a va.toList ∧ DenL Γ ρ c vc.toList
  | _, .nils, v => v = .slice none 0 0
  | _, .sl x z xs, v => (∃ ad, v = .slice ad 0 0 ∧ xs = []) ∨
      ∃ b off cap cs, v = .slice (some ⟨b, off, none⟩) xs.length cap ∧ xs.length ≤ cap ∧ (x = true → cap = xs.length) ∧ Γ b = some cs ∧ off + cap * z ≤ cs.length ∧ DenE Γ z xs (cs.drop off)
  | ρ, .own r, v => ρ.val r = some v ∧ v.oneCell' = true
  | ρ, .relt r z i o, v => ∃ b, ρ.blk r = some b ∧ v = .pointer (some ⟨b, i * z + o, none⟩)
  | ρ, .osub r z lo n, v => ∃ b cap off, ρ.blk r = some b ∧ (n ≠ 0 → off = lo * z) ∧ v = .slice (some ⟨b, off, none⟩) n cap
  | _, .elt s, v => ∃ b off cs u, v = .pointer (some ⟨b, off, none⟩) ∧ Γ b = some cs ∧ Den Γ Env.nil s u ∧ off + u.cells.size ≤ cs.length ∧ u.cells.toList = (cs.drop off).take u.cells.size
  | _, .raw u, v => v = u ∧ u.oneCell' = true
  | _, .any, v => v.oneCell' = true
  | _, .junk, _ => True
def DenL (Γ : Gh) : Env → List SV → List Value → Prop
  | _, [], vs => vs = []
  | ρ, s :: l, vs => ∃ v r, vs = v :: r ∧ Den Γ ρ s v ∧ DenL Γ ρ l r
def DenE (Γ : Gh) : Nat → List SV → List Value → Prop
  | _, [], _ => True
  | z, s :: l, cs => (∃ v, Den Γ Env.nil s v ∧ v.cells.size = z ∧ v.cells.toList = cs.take z) ∧ DenE Γ z l (cs.drop z)
end

mutual
def SV.bd (n : Nat) : SV → Bool
  | .loc r _ => Nat.blt r n
  | .own r => Nat.blt r n
  | .relt r _ _ _ => Nat.blt r n
  | .osub r _ _ _ => Nat.blt r n
  | .agg l => bdL n l
  | .tup l => bdL n l
  | .fn _ a c => bdL n a && bdL n c
  | _ => true
def bdL (n : Nat) : List SV → Bool
  | [] => true
  | s :: l => s.bd n && bdL n l
end

def Gh.sub (Γ Γ' : Gh) : Prop := ∀ b cs, Γ b = some cs → Γ' b = some cs
def Gh.le (Γ Γ' : Gh) : Prop := Γ.sub Γ' ∧ Γ'.lo = Γ.lo
def Gh.re (Γ : Gh) (n : Nat) : Gh := ⟨Γ.at_, n⟩
theorem Gh.sub_re (Γ : Gh) (n : Nat) : Γ.sub (Γ.re n) := fun _ _ h => h
theorem Gh.le_refl (Γ : Gh) : Γ.le Γ := ⟨fun _ _ h => h, rfl⟩
theorem Gh.le_trans {a b c : Gh} (h : a.le b) (k : b.le c) : a.le c := ⟨fun x y z => k.1 x y (h.1 x y z), k.2.trans h.2⟩

def Env.same (n : Nat) (ρ ρ' : Env) : Prop := ∀ r, r < n → ρ'.blk r = ρ.blk r ∧ ρ'.val r = ρ.val r
theorem Env.same_refl (n : Nat) (ρ : Env) : ρ.same n ρ := fun _ _ => ⟨rfl, rfl⟩

mutual
theorem Den.ext0 {Γ Γ' : Gh} (hΓ : Γ.sub Γ') : ∀ {n : Nat} {ρ ρ' : Env} (s : SV) (v : Value), Env.same n ρ ρ' → s.bd n = true → Den Γ ρ s v → Den Γ' ρ' s v
  | _, _, _, .int _ _, _, _, _, h => by simpa only [Den] using h
  | _, _, _, .bool _, _, _, _, h => by simpa only [Den] using h
  | n, ρ, ρ', .loc r o, v, hs, hb, h => by
    have hr : r < n := by simpa [SV.bd] using hb
    simp only [Den] at *
    rw [(hs r hr).1]; exact h
  | n, ρ, ρ', .agg l, v, hs, hb, h => by
    simp only [Den, SV.bd] at *
    obtain ⟨vs, e, h⟩ := h
    exact ⟨vs, e, DenL.ext0 hΓ l _ hs hb h⟩
  | n, ρ, ρ', .tup l, v, hs, hb, h => by
    simp only [Den, SV.bd] at *
    obtain ⟨vs, e, h⟩ := h
    exact ⟨vs, e, DenL.ext0 hΓ l _ hs hb h⟩
  | n, ρ, ρ', .fn f a c, v, hs, hb, h => by
    simp only [Den, SV.bd, Bool.and_eq_true] at *
    obtain ⟨va, vc, e, h1, h2⟩ := h
    exact ⟨va, vc, e, DenL.ext0 hΓ a _ hs hb.1 h1, DenL.ext0 hΓ c _ hs hb.2 h2⟩
  | _, _, _, .nils, _, _, _, h => by simpa only [Den] using h
  | _, _, _, .sl x z xs, v, _, _, h => by
    simp only [Den] at *
    refine h.imp id fun ⟨b, off, cap, cs, h1, h2, h3, h4, h5, h6⟩ => ⟨b, off, cap, cs, h1, h2, h3, hΓ _ _ h4, h5, DenE.ext0 hΓ z xs _ h6⟩
  | n, ρ, ρ', .own r, v, hs, hb, h => by
    have hr : r < n := by simpa [SV.bd] using hb
    simp only [Den] at *
    rw [(hs r hr).2]; exact h
  | n, ρ, ρ', .relt r z i o, v, hs, hb, h => by
    have hr : r < n := by simpa [SV.bd] using hb
    simp only [Den] at *
    rw [(hs r hr).1]; exact h
  | n, ρ, ρ', .osub r z lo k, v, hs, hb, h => by
    have hr : r < n := by simpa [SV.bd] using hb
    simp only [Den] at *
    rw [(hs r hr).1]; exact h
  | _, _, _, .elt s, v, _, _, h => by
    simp only [Den] at *
    obtain ⟨b, off, cs, u, h1, h2, h3, h4⟩ := h
    exact ⟨b, off, cs, u, h1, hΓ _ _ h2, Den.pub0 hΓ s _ h3, h4⟩
  | _, _, _, .raw _, _, _, _, h => by simpa only [Den] using h
  | _, _, _, .any, _, _, _, h => by simpa only [Den] using h
  | _, _, _, .junk, _, _, _, _ => by simp only [Den]
theorem DenL.ext0 {Γ Γ' : Gh} (hΓ : Γ.sub Γ') : ∀ {n : Nat} {ρ ρ' : Env} (l : List SV) (vs : List Value), Env.same n ρ ρ' → bdL n l = true → DenL Γ ρ l vs → DenL Γ' ρ' l vs
  | _, _, _, [], _, _, _, h => by simpa only [DenL] using h
  | n, ρ, ρ', s :: l, vs, hs, hb, h => by
    simp only [DenL, bdL, Bool.and_eq_true] at *
    obtain ⟨v, r, e, h1, h2⟩ := h
    exact ⟨v, r, e, Den.ext0 hΓ s v hs hb.1 h1, DenL.ext0 hΓ l r hs hb.2 h2⟩
/-- Under the empty environment: whatever the names. -/
theorem Den.pub0 {Γ Γ' : Gh} (hΓ : Γ.sub Γ') : ∀ (s : SV) (v : Value), Den Γ Env.nil s v → Den Γ' Env.nil s v
  | .int _ _, _, h => by simpa only [Den] using h
  | .bool _, _, h => by simpa only [Den] using h
  | .loc r o, v, h => by simpa only [Den] using h
  | .agg l, v, h => by
    simp only [Den] at *
    obtain ⟨vs, e, h⟩ := h
    exact ⟨vs, e, DenL.pub0 hΓ l _ h⟩
  | .tup l, v, h => by
    simp only [Den] at *
    obtain ⟨vs, e, h⟩ := h
    exact ⟨vs, e, DenL.pub0 hΓ l _ h⟩
  | .fn f a c, v, h => by
    simp only [Den] at *
    obtain ⟨va, vc, e, h1, h2⟩ := h
    exact ⟨va, vc, e, DenL.pub0 hΓ a _ h1, DenL.pub0 hΓ c _ h2⟩
  | .nils, _, h => by simpa only [Den] using h
  | .sl x z xs, v, h => by
    simp only [Den] at *
    refine h.imp id fun ⟨b, off, cap, cs, h1, h2, h3, h4, h5, h6⟩ => ⟨b, off, cap, cs, h1, h2, h3, hΓ _ _ h4, h5, DenE.ext0 hΓ z xs _ h6⟩
  | .own r, v, h => by simpa only [Den] using h
  | .relt _ _ _ _, v, h => by simpa only [Den] using h
  | .osub _ _ _ _, v, h => by simpa only [Den] using h
  | .elt s, v, h => by
    simp only [Den] at *
    obtain ⟨b, off, cs, u, h1, h2, h3, h4⟩ := h
    exact ⟨b, off, cs, u, h1, hΓ _ _ h2, Den.pub0 hΓ s _ h3, h4⟩
  | .raw _, _, h => by simpa only [Den] using h
  | .any, _, h => by simpa only [Den] using h
  | .junk, _, _ => by simp only [Den]
theorem DenL.pub0 {Γ Γ' : Gh} (hΓ : Γ.sub Γ') : ∀ (l : List SV) (vs : List Value), DenL Γ Env.nil l vs → DenL Γ' Env.nil l vs
  | [], _, h => by simpa only [DenL] using h
  | s :: l, vs, h => by
    simp only [DenL] at *
    obtain ⟨v, r, e, h1, h2⟩ := h
    exact ⟨v, r, e, Den.pub0 hΓ s v h1, DenL.pub0 hΓ l r h2⟩
theorem DenE.ext0 {Γ Γ' : Gh} (hΓ : Γ.sub Γ') : ∀ (z : Nat) (l : List SV) (cs : List Value), DenE Γ z l cs → DenE Γ' z l cs
  | _, [], _, _ => by simp only [DenE]
  | z, s :: l, cs, h => by
    simp only [DenE] at *
    obtain ⟨⟨v, h1, h2⟩, h3⟩ := h
    exact ⟨⟨v, Den.pub0 hΓ s v h1, h2⟩, DenE.ext0 hΓ z l _ h3⟩
end
theorem Den.ext {Γ Γ' : Gh} (hΓ : Γ.le Γ') {n : Nat} {ρ ρ' : Env} (s : SV) (v : Value) (h1 : Env.same n ρ ρ') (h2 : s.bd n = true) (h3 : Den Γ ρ s v) : Den Γ' ρ' s v := Den.ext0 hΓ.1 s v h1 h2 h3
theorem DenL.ext {Γ Γ' : Gh} (hΓ : Γ.le Γ') {n : Nat} {ρ ρ' : Env} (l : List SV) (vs : List Value) (h1 : Env.same n ρ ρ') (h2 : bdL n l = true) (h3 : DenL Γ ρ l vs) : DenL Γ' ρ' l vs := DenL.ext0 hΓ.1 l vs h1 h2 h3
theorem Den.pub {Γ Γ' : Gh} (hΓ : Γ.le Γ') (s : SV) (v : Value) (h : Den Γ Env.nil s v) : Den Γ' Env.nil s v := Den.pub0 hΓ.1 s v h
theorem DenL.pub {Γ Γ' : Gh} (hΓ : Γ.le Γ') (l : List SV) (vs : List Value) (h : DenL Γ Env.nil l vs) : DenL Γ' Env.nil l vs := DenL.pub0 hΓ.1 l vs h
theorem DenE.ext {Γ Γ' : Gh} (hΓ : Γ.le Γ') (z : Nat) (l : List SV) (cs : List Value) (h : DenE Γ z l cs) : DenE Γ' z l cs := DenE.ext0 hΓ.1 z l cs h

end Go.Proofs.Ytjchmajamlehmaa.X
