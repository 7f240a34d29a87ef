/- Entries written to twins, one by one and log by log, as functions. No program in sight. -/
import Derived.Test.YtnfkgfibinimmaaXq8
import Derived.Test.YtnfkgfibinimmaaXu1
namespace Go.Proofs.Ytnfkgfibinimmaa.X
open Go Go.RowKit
set_option linter.unusedVariables false

/-- The two spaces, and where the twins' one goes on. -/
abbrev R3 := List Int × List Int × Int
/-- An object's twin. -/
def toR (W : Int) (xs ys : List Int) (s b l a : Int) : R3 × Int × Int :=
  if a = 0 then ((xs, ys, b), 0, 0)
  else if oErr W xs ys a ≠ 0 then ((xs, ys, b), 0, oErr W xs ys a)
  else if ldw xs ys a / 72057594037927936 = 255 then ((xs, ys, b), 0, 8)
  else if a / 4294967296 - 1 = s then ((xs, ys, b), a, 0)
  else if ldw xs ys (a + 1) ≠ 0 then
    (if 1 ≤ ldw xs ys (a + 1) / 4294967296 ∧ ldw xs ys (a + 1) / 4294967296 ≤ 2 ∧ ldw xs ys (a + 1) / 4294967296 - 1 = s then ((xs, ys, b), ldw xs ys (a + 1), 0) else ((xs, ys, b), 0, 10))
  else if l - b < (ldw xs ys a / 4294967296) % 16777216 + 2 then ((xs, ys, b), 0, 4)
  else ((tX xs ys a ((s + 1) * 4294967296 + b) ((ldw xs ys a / 4294967296) % 16777216 + 2), tY xs ys a ((s + 1) * 4294967296 + b) ((ldw xs ys a / 4294967296) % 16777216 + 2), b + ((ldw xs ys a / 4294967296) % 16777216 + 2)), (s + 1) * 4294967296 + b, 0)
def tgX (W : Int) (xs ys : List Int) (s b l a : Int) : List Int := (toR W xs ys s b l a).1.1
def tgY (W : Int) (xs ys : List Int) (s b l a : Int) : List Int := (toR W xs ys s b l a).1.2.1
def tgB (W : Int) (xs ys : List Int) (s b l a : Int) : Int := (toR W xs ys s b l a).1.2.2
def tgT (W : Int) (xs ys : List Int) (s b l a : Int) : Int := (toR W xs ys s b l a).2.1
def tgE (W : Int) (xs ys : List Int) (s b l a : Int) : Int := (toR W xs ys s b l a).2.2
theorem tg_of {W : Int} {xs ys X Y : List Int} {s b l a B T E : Int} (h : toR W xs ys s b l a = ((X, Y, B), T, E)) : tgX W xs ys s b l a = X ∧ tgY W xs ys s b l a = Y ∧ tgB W xs ys s b l a = B ∧ tgT W xs ys s b l a = T ∧ tgE W xs ys s b l a = E := by
  unfold tgX tgY tgB tgT tgE; rw [h]; exact ⟨rfl, rfl, rfl, rfl, rfl⟩
/-- A field that is set. -/
def seR (W : Int) (xs ys : List Int) (a i v : Int) : List Int × List Int × Int :=
  if oErr W xs ys a ≠ 0 then (xs, ys, oErr W xs ys a)
  else if ldw xs ys a / 72057594037927936 = 255 then (xs, ys, 8)
  else if 0 ≤ i ∧ i < (ldw xs ys a / 4294967296) % 16777216 then (stx xs (a + 2 + i) v, sty ys (a + 2 + i) v, 0)
  else (xs, ys, 7)
def sgX (W : Int) (xs ys : List Int) (a i v : Int) : List Int := (seR W xs ys a i v).1
def sgY (W : Int) (xs ys : List Int) (a i v : Int) : List Int := (seR W xs ys a i v).2.1
def sgE (W : Int) (xs ys : List Int) (a i v : Int) : Int := (seR W xs ys a i v).2.2
theorem sg_of {W : Int} {xs ys X Y : List Int} {a i v E : Int} (h : seR W xs ys a i v = (X, Y, E)) : sgX W xs ys a i v = X ∧ sgY W xs ys a i v = Y ∧ sgE W xs ys a i v = E := by
  unfold sgX sgY sgE; rw [h]; exact ⟨rfl, rfl, rfl⟩
/-- What is wrong at a field. -/
def gE (W : Int) (xs ys : List Int) (a i : Int) : Int :=
  if oErr W xs ys a ≠ 0 then oErr W xs ys a
  else if ldw xs ys a / 72057594037927936 = 255 then 8
  else if 0 ≤ i ∧ i < (ldw xs ys a / 4294967296) % 16777216 then 0 else 7
theorem gE_0 {W : Int} {xs ys : List Int} {a i : Int} (h1 : oErr W xs ys a = 0) (h2 : ldw xs ys a / 72057594037927936 ≠ 255) (h3 : 0 ≤ i ∧ i < (ldw xs ys a / 4294967296) % 16777216) : gE W xs ys a i = 0 := by
  unfold gE; rw [if_neg (by omega), if_neg h2, if_pos h3]
theorem gE_7 {W : Int} {xs ys : List Int} {a i : Int} (h1 : oErr W xs ys a = 0) (h2 : ldw xs ys a / 72057594037927936 ≠ 255) (h3 : ¬ (0 ≤ i ∧ i < (ldw xs ys a / 4294967296) % 16777216)) : gE W xs ys a i = 7 := by
  unfold gE; rw [if_neg (by omega), if_neg h2, if_neg h3]
theorem gE_8 {W : Int} {xs ys : List Int} {a i : Int} (h1 : oErr W xs ys a = 0) (h2 : ldw xs ys a / 72057594037927936 = 255) : gE W xs ys a i = 8 := by
  unfold gE; rw [if_neg (by omega), if_pos h2]
theorem gE_e {W : Int} {xs ys : List Int} {a i : Int} (h1 : oErr W xs ys a ≠ 0) : gE W xs ys a i = oErr W xs ys a := by
  unfold gE; rw [if_pos h1]

/-- An entry written to the twin. -/
def roR (W s l : Int) (x : R3) (a i : Int) : R3 × Int :=
  if gE W x.1 x.2.1 a i ≠ 0 then (x, gE W x.1 x.2.1 a i)
  else if (1 ≤ a / 4294967296 ∧ a / 4294967296 ≤ 2 ∧ a / 4294967296 - 1 = s) ∨ ldw x.1 x.2.1 (a + 1) = 0 then (x, 0)
  else if isPtr ((ldw x.1 x.2.1 a / 4294967296) % 16777216) (ldw x.1 x.2.1 a % 4294967296) i = true then
    (if tgE W x.1 x.2.1 s x.2.2 l (ldw x.1 x.2.1 (a + 2 + i)) ≠ 0 then ((tgX W x.1 x.2.1 s x.2.2 l (ldw x.1 x.2.1 (a + 2 + i)), tgY W x.1 x.2.1 s x.2.2 l (ldw x.1 x.2.1 (a + 2 + i)), tgB W x.1 x.2.1 s x.2.2 l (ldw x.1 x.2.1 (a + 2 + i))), tgE W x.1 x.2.1 s x.2.2 l (ldw x.1 x.2.1 (a + 2 + i)))
     else ((sgX W (tgX W x.1 x.2.1 s x.2.2 l (ldw x.1 x.2.1 (a + 2 + i))) (tgY W x.1 x.2.1 s x.2.2 l (ldw x.1 x.2.1 (a + 2 + i))) (ldw x.1 x.2.1 (a + 1)) i (tgT W x.1 x.2.1 s x.2.2 l (ldw x.1 x.2.1 (a + 2 + i))),
            sgY W (tgX W x.1 x.2.1 s x.2.2 l (ldw x.1 x.2.1 (a + 2 + i))) (tgY W x.1 x.2.1 s x.2.2 l (ldw x.1 x.2.1 (a + 2 + i))) (ldw x.1 x.2.1 (a + 1)) i (tgT W x.1 x.2.1 s x.2.2 l (ldw x.1 x.2.1 (a + 2 + i))),
            tgB W x.1 x.2.1 s x.2.2 l (ldw x.1 x.2.1 (a + 2 + i))),
           sgE W (tgX W x.1 x.2.1 s x.2.2 l (ldw x.1 x.2.1 (a + 2 + i))) (tgY W x.1 x.2.1 s x.2.2 l (ldw x.1 x.2.1 (a + 2 + i))) (ldw x.1 x.2.1 (a + 1)) i (tgT W x.1 x.2.1 s x.2.2 l (ldw x.1 x.2.1 (a + 2 + i)))))
  else ((sgX W x.1 x.2.1 (ldw x.1 x.2.1 (a + 1)) i (ldw x.1 x.2.1 (a + 2 + i)), sgY W x.1 x.2.1 (ldw x.1 x.2.1 (a + 1)) i (ldw x.1 x.2.1 (a + 2 + i)), x.2.2), sgE W x.1 x.2.1 (ldw x.1 x.2.1 (a + 1)) i (ldw x.1 x.2.1 (a + 2 + i)))
def rX (W : Int) (xs ys : List Int) (s b l a i : Int) : List Int := (roR W s l (xs, ys, b) a i).1.1
def rY (W : Int) (xs ys : List Int) (s b l a i : Int) : List Int := (roR W s l (xs, ys, b) a i).1.2.1
def rB (W : Int) (xs ys : List Int) (s b l a i : Int) : Int := (roR W s l (xs, ys, b) a i).1.2.2
def rE (W : Int) (xs ys : List Int) (s b l a i : Int) : Int := (roR W s l (xs, ys, b) a i).2
theorem r_of {W : Int} {xs ys X Y : List Int} {s b l a i B E : Int} (h : roR W s l (xs, ys, b) a i = ((X, Y, B), E)) : rX W xs ys s b l a i = X ∧ rY W xs ys s b l a i = Y ∧ rB W xs ys s b l a i = B ∧ rE W xs ys s b l a i = E := by
  unfold rX rY rB rE; rw [h]; exact ⟨rfl, rfl, rfl, rfl⟩

/-- Some entries, one by one. -/
def addn (k : Int) (r : R3 × Int × Int) : R3 × Int × Int := (r.1, r.2.1 + k, r.2.2)
def raR (W s l : Int) : R3 → List Ent → R3 × Int × Int
  | x, [] => (x, 0, 0)
  | x, e :: es => if (roR W s l x e.1 e.2).2 ≠ 0 then (x, 0, (roR W s l x e.1 e.2).2) else addn 1 (raR W s l (roR W s l x e.1 e.2).1 es)
def aX (W : Int) (xs ys : List Int) (s b l : Int) (es : List Ent) : List Int := (raR W s l (xs, ys, b) es).1.1
def aY (W : Int) (xs ys : List Int) (s b l : Int) (es : List Ent) : List Int := (raR W s l (xs, ys, b) es).1.2.1
def aB (W : Int) (xs ys : List Int) (s b l : Int) (es : List Ent) : Int := (raR W s l (xs, ys, b) es).1.2.2
def aN (W : Int) (xs ys : List Int) (s b l : Int) (es : List Ent) : Int := (raR W s l (xs, ys, b) es).2.1
def aE (W : Int) (xs ys : List Int) (s b l : Int) (es : List Ent) : Int := (raR W s l (xs, ys, b) es).2.2
theorem addn_0 (r : R3 × Int × Int) : addn 0 r = r := by simp [addn]
theorem addn_addn (j k : Int) (r : R3 × Int × Int) : addn k (addn j r) = addn (k + j) r := by simp [addn]; omega
theorem ra_cons {W s l : Int} {x : R3} {e : Ent} {es : List Ent} (h : (roR W s l x e.1 e.2).2 = 0) : raR W s l x (e :: es) = addn 1 (raR W s l (roR W s l x e.1 e.2).1 es) := by rw [raR, if_neg (by omega)]
theorem ra_stop {W s l : Int} {x : R3} {e : Ent} {es : List Ent} (h : (roR W s l x e.1 e.2).2 ≠ 0) : raR W s l x (e :: es) = (x, 0, (roR W s l x e.1 e.2).2) := by rw [raR, if_pos h]
theorem ra_app (W s l : Int) : ∀ (x : R3) (es fs : List Ent), raR W s l x (es ++ fs) = if (raR W s l x es).2.2 ≠ 0 then raR W s l x es else addn (raR W s l x es).2.1 (raR W s l (raR W s l x es).1 fs)
  | x, [], fs => by simp [raR, addn]
  | x, e :: es, fs => by
    rw [List.cons_append]
    by_cases h : (roR W s l x e.1 e.2).2 = 0
    · rw [ra_cons h, ra_cons h, ra_app W s l]
      by_cases h2 : (raR W s l (roR W s l x e.1 e.2).1 es).2.2 = 0
      · have h3 : (addn 1 (raR W s l (roR W s l x e.1 e.2).1 es)).2.2 = 0 := h2
        rw [if_neg (by omega), if_neg (by omega), addn_addn]
        show _ = addn ((raR W s l (roR W s l x e.1 e.2).1 es).2.1 + 1) _
        rw [Int.add_comm]; rfl
      · have h3 : (addn 1 (raR W s l (roR W s l x e.1 e.2).1 es)).2.2 ≠ 0 := h2
        rw [if_pos h2, if_pos h3]
    · rw [ra_stop h, ra_stop h, if_pos h]
theorem ra_n (W s l : Int) : ∀ (x : R3) (es : List Ent), 0 ≤ (raR W s l x es).2.1 ∧ (raR W s l x es).2.1 ≤ (es.length : Int) ∧ ((raR W s l x es).2.1 = (es.length : Int) ↔ (raR W s l x es).2.2 = 0)
  | x, [] => by simp [raR]
  | x, e :: es => by
    by_cases h : (roR W s l x e.1 e.2).2 = 0
    · rw [ra_cons h]
      have := ra_n W s l (roR W s l x e.1 e.2).1 es
      simp only [addn, List.length_cons]
      refine ⟨by omega, by omega, ?_⟩
      rw [← this.2.2]; omega
    · rw [ra_stop h]
      simp only [List.length_cons]
      refine ⟨by omega, by omega, ⟨fun h1 => by omega, fun h1 => absurd h1 h⟩⟩

section
variable {W s l : Int} {xs ys x1 y1 : List Int} {b b1 k i : Int} {es fs : List Ent}
theorem ra_0 : raR W s l (xs, ys, b) es = addn 0 (raR W s l (xs, ys, b) (es.drop (Int.toNat 0))) := by rw [addn_0]; rfl
theorem drop_ent (h0 : 0 ≤ i) (h1 : i < (es.length : Int)) : es.drop i.toNat = (eO es i, eF es i) :: es.drop (i + 1).toNat := by
  have h2 : i.toNat < es.length := by omega
  have h3 : (eO es i, eF es i) = es[i.toNat] := by simp [eO, eF, h2]
  rw [show (i + 1).toNat = i.toNat + 1 by omega, h3]
  exact List.drop_eq_getElem_cons h2
theorem ra_end (h : raR W s l (xs, ys, b) es = addn i (raR W s l (x1, y1, b1) (es.drop i.toNat))) (hi : (es.length : Int) ≤ i) :
    aX W xs ys s b l es = x1 ∧ aY W xs ys s b l es = y1 ∧ aB W xs ys s b l es = b1 ∧ aN W xs ys s b l es = i ∧ aE W xs ys s b l es = 0 := by
  rw [List.drop_eq_nil_of_le (by omega)] at h
  unfold aX aY aB aN aE; rw [h]
  simp [raR, addn]
theorem ra_fail (h : raR W s l (xs, ys, b) es = addn i (raR W s l (x1, y1, b1) (es.drop i.toNat))) (h0 : 0 ≤ i) (hi : i < (es.length : Int)) (he : rE W x1 y1 s b1 l (eO es i) (eF es i) ≠ 0) :
    aX W xs ys s b l es = x1 ∧ aY W xs ys s b l es = y1 ∧ aB W xs ys s b l es = b1 ∧ aN W xs ys s b l es = i ∧ aE W xs ys s b l es = rE W x1 y1 s b1 l (eO es i) (eF es i) := by
  rw [drop_ent h0 hi, ra_stop (e := (eO es i, eF es i)) he] at h
  unfold aX aY aB aN aE rE; rw [h]
  simp [addn]
theorem ra_next (h : raR W s l (xs, ys, b) es = addn i (raR W s l (x1, y1, b1) (es.drop i.toNat))) (h0 : 0 ≤ i) (hi : i < (es.length : Int)) (he : rE W x1 y1 s b1 l (eO es i) (eF es i) = 0) :
    raR W s l (xs, ys, b) es = addn (i + 1) (raR W s l (rX W x1 y1 s b1 l (eO es i) (eF es i), rY W x1 y1 s b1 l (eO es i) (eF es i), rB W x1 y1 s b1 l (eO es i) (eF es i)) (es.drop (i + 1).toNat)) := by
  rw [h, drop_ent h0 hi, ra_cons (e := (eO es i, eF es i)) he, addn_addn]
  rfl
/-- Behind the first entries the others. -/
theorem ra_two : (aE W xs ys s b l es ≠ 0 ∧ aX W xs ys s b l (es ++ fs) = aX W xs ys s b l es ∧ aY W xs ys s b l (es ++ fs) = aY W xs ys s b l es ∧ aB W xs ys s b l (es ++ fs) = aB W xs ys s b l es ∧ aN W xs ys s b l (es ++ fs) = aN W xs ys s b l es ∧ aE W xs ys s b l (es ++ fs) = aE W xs ys s b l es) ∨
    (aE W xs ys s b l es = 0 ∧ aX W xs ys s b l (es ++ fs) = aX W (aX W xs ys s b l es) (aY W xs ys s b l es) s (aB W xs ys s b l es) l fs ∧ aY W xs ys s b l (es ++ fs) = aY W (aX W xs ys s b l es) (aY W xs ys s b l es) s (aB W xs ys s b l es) l fs ∧ aB W xs ys s b l (es ++ fs) = aB W (aX W xs ys s b l es) (aY W xs ys s b l es) s (aB W xs ys s b l es) l fs ∧
      aN W xs ys s b l (es ++ fs) = aN W (aX W xs ys s b l es) (aY W xs ys s b l es) s (aB W xs ys s b l es) l fs + aN W xs ys s b l es ∧ aE W xs ys s b l (es ++ fs) = aE W (aX W xs ys s b l es) (aY W xs ys s b l es) s (aB W xs ys s b l es) l fs) := by
  unfold aX aY aB aN aE
  rw [ra_app]
  by_cases h : (raR W s l (xs, ys, b) es).2.2 = 0
  · rw [if_neg (by omega)]
    exact .inr ⟨h, rfl, rfl, rfl, rfl, rfl⟩
  · rw [if_pos h]
    exact .inl ⟨h, rfl, rfl, rfl, rfl, rfl⟩
theorem aN_le : 0 ≤ aN W xs ys s b l es ∧ aN W xs ys s b l es ≤ (es.length : Int) := by
  have := ra_n W s l (xs, ys, b) es; exact ⟨this.1, this.2.1⟩
theorem aN_iff : (aN W xs ys s b l es = (es.length : Int) ∧ aE W xs ys s b l es = 0) ∨ (aN W xs ys s b l es < (es.length : Int) ∧ aE W xs ys s b l es ≠ 0) := by
  have := ra_n W s l (xs, ys, b) es
  unfold aN aE
  by_cases h : (raR W s l (xs, ys, b) es).2.2 = 0
  · exact .inl ⟨this.2.2.2 h, h⟩
  · exact .inr ⟨by have := fun e => h (this.2.2.1 e); omega, h⟩
end

/-- How many entries there are in the first logs. -/
def mny (L : List (List Ent)) (i : Int) : Int := ((L.take i.toNat).flatten.length : Int)
def flt (L : List (List Ent)) : List Ent := L.flatten
section
variable {L : List (List Ent)} {i : Int}
theorem mny_0 (L : List (List Ent)) : mny L 0 = 0 := by simp [mny]
theorem take_log (h0 : 0 ≤ i) (h1 : i < (L.length : Int)) : L.take (i + 1).toNat = L.take i.toNat ++ [lg L i] := by
  have h2 : i.toNat < L.length := by omega
  rw [show (i + 1).toNat = i.toNat + 1 by omega, List.take_add_one]
  simp [lg, h2]
theorem mny_next (h0 : 0 ≤ i) (h1 : i < (L.length : Int)) : mny L (i + 1) = mny L i + ((lg L i).length : Int) := by
  unfold mny
  rw [take_log h0 h1]; simp
theorem mny_all (h : (L.length : Int) ≤ i) : mny L i = ((flt L).length : Int) := by
  unfold mny flt
  rw [List.take_of_length_le (by omega)]
theorem mny_le : ∀ (L : List (List Ent)) (h : Lgs L) (i : Int), 0 ≤ i → 0 ≤ mny L i ∧ mny L i ≤ 8796093022208 * i := by
  intro L h
  have key : ∀ n : Nat, ((L.take n).flatten.length : Int) ≤ 8796093022208 * (n : Int) := by
    intro n
    induction n with
    | zero => simp
    | succ n ih =>
      by_cases hn : n < L.length
      · rw [List.take_add_one]
        have := (h _ (List.getElem_mem hn)).2
        simp only [hn, List.getElem?_eq_getElem, Option.toList_some, List.flatten_append, List.length_append, List.flatten_singleton]
        omega
      · rw [List.take_of_length_le (by omega)] at ih ⊢
        omega
  intro i hi
  have := key i.toNat
  unfold mny
  omega
/-- The first log that isn't empty: whose first entry all come to. -/
theorem flt_head (h0 : 0 ≤ i) (h1 : i < (L.length : Int)) (hm : mny L i = 0) (hl : 0 < ((lg L i).length : Int)) : flt L = (eO (lg L i) 0, eF (lg L i) 0) :: flt (stl L i ((lg L i).drop 1)) := by
  have h2 : i.toNat < L.length := by omega
  have he : (L.take i.toNat).flatten = [] := by
    unfold mny at hm
    exact List.eq_nil_of_length_eq_zero (by omega)
  have e1 : L = L.take i.toNat ++ lg L i :: L.drop (i.toNat + 1) := by
    have : lg L i = L[i.toNat] := by simp [lg, h2]
    rw [this, ← List.drop_eq_getElem_cons h2, List.take_append_drop]
  have e2 : stl L i ((lg L i).drop 1) = L.take i.toNat ++ (lg L i).drop 1 :: L.drop (i.toNat + 1) := by
    unfold stl; exact List.set_eq_take_append_cons_drop.trans (by rw [if_pos h2])
  have e3 : lg L i = (eO (lg L i) 0, eF (lg L i) 0) :: (lg L i).drop 1 := drop_ent (es := lg L i) (i := 0) (by omega) hl
  unfold flt
  rw [e2, List.flatten_append, List.flatten_cons, he, List.nil_append, ← List.cons_append, ← e3]
  conv => lhs; rw [e1]
  rw [List.flatten_append, List.flatten_cons, he, List.nil_append]
theorem flt_two (a b : List Ent) : flt [a, b] = a ++ b := by simp [flt]
end
section
variable {W s l : Int} {xs ys x1 y1 : List Int} {b b1 k i : Int} {L L1 : List (List Ent)} {es : List Ent}
theorem lo_0 : raR W s l (xs, ys, b) (flt L) = addn 0 (raR W s l (xs, ys, b) (flt L)) := (addn_0 _).symm
theorem lo_end (h : raR W s l (xs, ys, b) es = addn k (raR W s l (x1, y1, b1) (flt L1))) (hm : (flt L1).length = 0) :
    aX W xs ys s b l es = x1 ∧ aY W xs ys s b l es = y1 ∧ aB W xs ys s b l es = b1 ∧ aN W xs ys s b l es = k ∧ aE W xs ys s b l es = 0 := by
  rw [List.eq_nil_of_length_eq_zero hm] at h
  unfold aX aY aB aN aE; rw [h]
  simp [raR, addn]
theorem lo_fail (h : raR W s l (xs, ys, b) es = addn k (raR W s l (x1, y1, b1) (flt L1))) (h0 : 0 ≤ i) (h1 : i < (L1.length : Int)) (hm : mny L1 i = 0) (hl : 0 < ((lg L1 i).length : Int)) (hn : aN W x1 y1 s b1 l [(eO (lg L1 i) 0, eF (lg L1 i) 0)] = 0) :
    aX W xs ys s b l es = x1 ∧ aY W xs ys s b l es = y1 ∧ aB W xs ys s b l es = b1 ∧ aN W xs ys s b l es = k ∧ aE W xs ys s b l es = aE W x1 y1 s b1 l [(eO (lg L1 i) 0, eF (lg L1 i) 0)] := by
  have he : (roR W s l (x1, y1, b1) (eO (lg L1 i) 0) (eF (lg L1 i) 0)).2 ≠ 0 := by
    intro he
    unfold aN at hn
    rw [ra_cons (e := (eO (lg L1 i) 0, eF (lg L1 i) 0)) he] at hn
    simp [raR, addn] at hn
  rw [flt_head h0 h1 hm hl, ra_stop (e := (eO (lg L1 i) 0, eF (lg L1 i) 0)) he] at h
  unfold aX aY aB aN aE; rw [h, ra_stop (e := (eO (lg L1 i) 0, eF (lg L1 i) 0)) he]
  simp [addn]
theorem lo_next (h : raR W s l (xs, ys, b) es = addn k (raR W s l (x1, y1, b1) (flt L1))) (h0 : 0 ≤ i) (h1 : i < (L1.length : Int)) (hm : mny L1 i = 0) (hl : 0 < ((lg L1 i).length : Int)) (hn : aN W x1 y1 s b1 l [(eO (lg L1 i) 0, eF (lg L1 i) 0)] ≠ 0) :
    raR W s l (xs, ys, b) es = addn (k + 1) (raR W s l (aX W x1 y1 s b1 l [(eO (lg L1 i) 0, eF (lg L1 i) 0)], aY W x1 y1 s b1 l [(eO (lg L1 i) 0, eF (lg L1 i) 0)], aB W x1 y1 s b1 l [(eO (lg L1 i) 0, eF (lg L1 i) 0)]) (flt (stl L1 i ((lg L1 i).drop 1)))) := by
  have he : (roR W s l (x1, y1, b1) (eO (lg L1 i) 0) (eF (lg L1 i) 0)).2 = 0 := by
    by_cases he : (roR W s l (x1, y1, b1) (eO (lg L1 i) 0) (eF (lg L1 i) 0)).2 = 0
    · exact he
    · unfold aN at hn
      rw [ra_stop (e := (eO (lg L1 i) 0, eF (lg L1 i) 0)) he] at hn
      simp at hn
  rw [h, flt_head h0 h1 hm hl, ra_cons (e := (eO (lg L1 i) 0, eF (lg L1 i) 0)) he, addn_addn]
  unfold aX aY aB
  rw [ra_cons (e := (eO (lg L1 i) 0, eF (lg L1 i) 0)) he]
  simp [raR, addn]
theorem lo_less (h0 : 0 ≤ i) (h1 : i < (L1.length : Int)) (hm : mny L1 i = 0) (hl : 0 < ((lg L1 i).length : Int)) : ((flt (stl L1 i ((lg L1 i).drop 1))).length : Int) = ((flt L1).length : Int) - 1 := by
  rw [flt_head h0 h1 hm hl]; simp
end

/-- A room's spaces. -/
def Rm (W l b0 : Int) (x : R3) : Prop := (x.1.length : Int) = W ∧ (x.2.1.length : Int) = W ∧ U64s x.1 ∧ U64s x.2.1 ∧ b0 ≤ x.2.2 ∧ x.2.2 ≤ l
theorem Rm.le {W l b0 b1 : Int} {x : R3} (h : Rm W l b1 x) (hb : b0 ≤ b1) : Rm W l b0 x := ⟨h.1, h.2.1, h.2.2.1, h.2.2.2.1, by have := h.2.2.2.2.1; omega, h.2.2.2.2.2⟩
theorem to_ok (W : Int) (xs ys : List Int) (s b l a : Int) (h1 : (xs.length : Int) = W) (h2 : (ys.length : Int) = W) (h3 : U64s xs) (h4 : U64s ys) (hW : 16 ≤ W ∧ W ≤ 4096) (hs : (s = 0 ∨ s = 1) ∧ 0 ≤ b ∧ b ≤ l ∧ l = W) (ha : 0 ≤ a ∧ a ≤ 18446744073709551615) :
    Rm W l b (toR W xs ys s b l a).1 ∧ (0 ≤ (toR W xs ys s b l a).2.1 ∧ (toR W xs ys s b l a).2.1 ≤ 18446744073709551615) ∧ (0 ≤ (toR W xs ys s b l a).2.2 ∧ (toR W xs ys s b l a).2.2 ≤ 100) := by
  have hr : Rm W l b (xs, ys, b) := ⟨h1, h2, h3, h4, by simp, by simp; omega⟩
  unfold toR
  by_cases e1 : a = 0
  · rw [if_pos e1]; exact ⟨hr, by simp, by simp⟩
  rw [if_neg e1]
  by_cases e2 : oErr W xs ys a ≠ 0
  · rw [if_pos e2]
    refine ⟨hr, by simp, ?_⟩
    have := oErr_no W xs ys a e2
    simp only; omega
  rw [if_neg e2]
  obtain ⟨g1, g2, g3⟩ := oErr_ok W xs ys a (by omega)
  by_cases e3 : ldw xs ys a / 72057594037927936 = 255
  · rw [if_pos e3]; exact ⟨hr, by simp, by simp⟩
  rw [if_neg e3]
  by_cases e4 : a / 4294967296 - 1 = s
  · rw [if_pos e4]; exact ⟨hr, by simp only; omega, by simp⟩
  rw [if_neg e4]
  by_cases e5 : ldw xs ys (a + 1) ≠ 0
  · rw [if_pos e5]
    have := ldw_ok xs ys (a + 1) h3 h4
    split
    · exact ⟨hr, by simp only; omega, by simp⟩
    · exact ⟨hr, by simp, by simp⟩
  rw [if_neg e5]
  by_cases e6 : l - b < (ldw xs ys a / 4294967296) % 16777216 + 2
  · rw [if_pos e6]; exact ⟨hr, by simp, by simp⟩
  rw [if_neg e6]
  obtain ⟨k1, k2, k3, k4⟩ := tw_ok W xs ys a ((s + 1) * 4294967296 + b) ((ldw xs ys a / 4294967296) % 16777216 + 2) h1 h2 h3 h4 (by omega) (by omega) (by omega) (by omega)
  exact ⟨⟨k1, k2, k3, k4, by simp only; omega, by simp only; omega⟩, by simp only; omega, by simp⟩
theorem tg_ok (W : Int) (xs ys : List Int) (s b l a : Int) (h1 : (xs.length : Int) = W) (h2 : (ys.length : Int) = W) (h3 : U64s xs) (h4 : U64s ys) (hW : 16 ≤ W ∧ W ≤ 4096) (hs : (s = 0 ∨ s = 1) ∧ 0 ≤ b ∧ b ≤ l ∧ l = W) (ha : 0 ≤ a ∧ a ≤ 18446744073709551615) :
    ((tgX W xs ys s b l a).length : Int) = W ∧ ((tgY W xs ys s b l a).length : Int) = W ∧ U64s (tgX W xs ys s b l a) ∧ U64s (tgY W xs ys s b l a) ∧ (b ≤ tgB W xs ys s b l a ∧ tgB W xs ys s b l a ≤ l) ∧ (0 ≤ tgT W xs ys s b l a ∧ tgT W xs ys s b l a ≤ 18446744073709551615) ∧ (0 ≤ tgE W xs ys s b l a ∧ tgE W xs ys s b l a ≤ 100) := by
  obtain ⟨⟨g1, g2, g3, g4, g5, g6⟩, g7, g8⟩ := to_ok W xs ys s b l a h1 h2 h3 h4 hW hs ha
  exact ⟨g1, g2, g3, g4, ⟨g5, g6⟩, g7, g8⟩
theorem sg_ok (W : Int) (xs ys : List Int) (a i v : Int) (h1 : (xs.length : Int) = W) (h2 : (ys.length : Int) = W) (h3 : U64s xs) (h4 : U64s ys) (hv : 0 ≤ v ∧ v ≤ 18446744073709551615) :
    ((sgX W xs ys a i v).length : Int) = W ∧ ((sgY W xs ys a i v).length : Int) = W ∧ U64s (sgX W xs ys a i v) ∧ U64s (sgY W xs ys a i v) ∧ (0 ≤ sgE W xs ys a i v ∧ sgE W xs ys a i v ≤ 100) := by
  unfold sgX sgY sgE seR
  by_cases e1 : oErr W xs ys a ≠ 0
  · rw [if_pos e1]
    have := oErr_no W xs ys a e1
    exact ⟨h1, h2, h3, h4, by simp only; omega⟩
  rw [if_neg e1]
  by_cases e2 : ldw xs ys a / 72057594037927936 = 255
  · rw [if_pos e2]; exact ⟨h1, h2, h3, h4, by simp⟩
  rw [if_neg e2]
  split
  · obtain ⟨k1, k2, k3, k4⟩ := stx_ok W xs ys (a + 2 + i) v h1 h2 h3 h4 hv
    exact ⟨k1, k2, k3, k4, by simp⟩
  · exact ⟨h1, h2, h3, h4, by simp⟩
theorem gE_ok (W : Int) (xs ys : List Int) (a i : Int) : 0 ≤ gE W xs ys a i ∧ gE W xs ys a i ≤ 100 := by
  unfold gE
  by_cases e1 : oErr W xs ys a ≠ 0
  · rw [if_pos e1]
    have := oErr_no W xs ys a e1
    omega
  rw [if_neg e1]
  split
  · omega
  · split <;> omega
theorem ro_ok (W s l : Int) (x : R3) (a i : Int) (h : Rm W l 0 x) (hW : 16 ≤ W ∧ W ≤ 4096) (hs : (s = 0 ∨ s = 1) ∧ l = W) : Rm W l x.2.2 (roR W s l x a i).1 ∧ 0 ≤ (roR W s l x a i).2 ∧ (roR W s l x a i).2 ≤ 100 := by
  obtain ⟨h1, h2, h3, h4, h5, h6⟩ := h
  have hr : Rm W l x.2.2 x := ⟨h1, h2, h3, h4, Int.le_refl _, h6⟩
  have hv := ldw_ok x.1 x.2.1 (a + 2 + i) h3 h4
  unfold roR
  by_cases e1 : gE W x.1 x.2.1 a i ≠ 0
  · rw [if_pos e1]; exact ⟨hr, gE_ok W x.1 x.2.1 a i⟩
  rw [if_neg e1]
  split
  · exact ⟨hr, by simp⟩
  split
  · obtain ⟨g1, g2, g3, g4, g5, g6, g7⟩ := tg_ok W x.1 x.2.1 s x.2.2 l (ldw x.1 x.2.1 (a + 2 + i)) h1 h2 h3 h4 hW ⟨hs.1, by omega, h6, hs.2⟩ hv
    split
    · exact ⟨⟨g1, g2, g3, g4, g5.1, g5.2⟩, g7⟩
    · obtain ⟨k1, k2, k3, k4, k5⟩ := sg_ok W _ _ (ldw x.1 x.2.1 (a + 1)) i _ g1 g2 g3 g4 g6
      exact ⟨⟨k1, k2, k3, k4, g5.1, g5.2⟩, k5⟩
  · obtain ⟨k1, k2, k3, k4, k5⟩ := sg_ok W x.1 x.2.1 (ldw x.1 x.2.1 (a + 1)) i _ h1 h2 h3 h4 hv
    exact ⟨⟨k1, k2, k3, k4, Int.le_refl _, h6⟩, k5⟩
theorem r_ok (W : Int) (xs ys : List Int) (s b l a i : Int) (h1 : (xs.length : Int) = W) (h2 : (ys.length : Int) = W) (h3 : U64s xs) (h4 : U64s ys) (hW : 16 ≤ W ∧ W ≤ 4096) (hs : (s = 0 ∨ s = 1) ∧ 0 ≤ b ∧ b ≤ l ∧ l = W) :
    ((rX W xs ys s b l a i).length : Int) = W ∧ ((rY W xs ys s b l a i).length : Int) = W ∧ U64s (rX W xs ys s b l a i) ∧ U64s (rY W xs ys s b l a i) ∧ (b ≤ rB W xs ys s b l a i ∧ rB W xs ys s b l a i ≤ l) ∧ (0 ≤ rE W xs ys s b l a i ∧ rE W xs ys s b l a i ≤ 100) := by
  obtain ⟨⟨g1, g2, g3, g4, g5, g6⟩, g7⟩ := ro_ok W s l (xs, ys, b) a i ⟨h1, h2, h3, h4, hs.2.1, hs.2.2.1⟩ hW ⟨hs.1, hs.2.2.2⟩
  exact ⟨g1, g2, g3, g4, ⟨g5, g6⟩, g7⟩
theorem raR_ok (W s l : Int) (hW : 16 ≤ W ∧ W ≤ 4096) (hs : (s = 0 ∨ s = 1) ∧ l = W) : ∀ (x : R3) (es : List Ent), Rm W l 0 x → Rm W l x.2.2 (raR W s l x es).1 ∧ 0 ≤ (raR W s l x es).2.2 ∧ (raR W s l x es).2.2 ≤ 100
  | x, [], h => by
    simp only [raR]
    exact ⟨⟨h.1, h.2.1, h.2.2.1, h.2.2.2.1, Int.le_refl _, h.2.2.2.2.2⟩, by omega, by omega⟩
  | x, e :: es, h => by
    obtain ⟨g1, g2⟩ := ro_ok W s l x e.1 e.2 h hW hs
    by_cases he : (roR W s l x e.1 e.2).2 = 0
    · rw [ra_cons he]
      have g3 := raR_ok W s l hW hs _ es (g1.le h.2.2.2.2.1)
      exact ⟨g3.1.le g1.2.2.2.2.1, g3.2⟩
    · rw [ra_stop he]
      exact ⟨⟨h.1, h.2.1, h.2.2.1, h.2.2.2.1, Int.le_refl _, h.2.2.2.2.2⟩, g2⟩
theorem a_ok (W : Int) (xs ys : List Int) (s b l : Int) (es : List Ent) (h1 : (xs.length : Int) = W) (h2 : (ys.length : Int) = W) (h3 : U64s xs) (h4 : U64s ys) (hW : 16 ≤ W ∧ W ≤ 4096) (hs : (s = 0 ∨ s = 1) ∧ 0 ≤ b ∧ b ≤ l ∧ l = W) :
    ((aX W xs ys s b l es).length : Int) = W ∧ ((aY W xs ys s b l es).length : Int) = W ∧ U64s (aX W xs ys s b l es) ∧ U64s (aY W xs ys s b l es) ∧ (b ≤ aB W xs ys s b l es ∧ aB W xs ys s b l es ≤ l) ∧ (0 ≤ aE W xs ys s b l es ∧ aE W xs ys s b l es ≤ 100) := by
  obtain ⟨⟨g1, g2, g3, g4, g5, g6⟩, g7⟩ := raR_ok W s l hW ⟨hs.1, hs.2.2.2⟩ (xs, ys, b) es ⟨h1, h2, h3, h4, hs.2.1, hs.2.2.1⟩
  exact ⟨g1, g2, g3, g4, ⟨g5, g6⟩, g7⟩
section
variable {W s l : Int} {xs ys x1 y1 : List Int} {b b1 i n : Int} {L L1 : List (List Ent)} {es : List Ent}
theorem ra_e1 (h : raR W s l (xs, ys, b) es = addn i (raR W s l (x1, y1, b1) (es.drop i.toNat))) : i < (es.length : Int) ∨ (aN W xs ys s b l es = i ∧ aE W xs ys s b l es = 0 ∧ aB W xs ys s b l es = b1) := by
  by_cases e : i < (es.length : Int)
  · exact .inl e
  · obtain ⟨_, _, h3, h4, h5⟩ := ra_end h (by omega)
    exact .inr ⟨h4, h5, h3⟩
theorem ra_f1 (h : raR W s l (xs, ys, b) es = addn i (raR W s l (x1, y1, b1) (es.drop i.toNat))) (h0 : 0 ≤ i) (hi : i < (es.length : Int)) : rE W x1 y1 s b1 l (eO es i) (eF es i) = 0 ∨ (aN W xs ys s b l es = i ∧ aE W xs ys s b l es = rE W x1 y1 s b1 l (eO es i) (eF es i) ∧ aB W xs ys s b l es = b1) := by
  by_cases e : rE W x1 y1 s b1 l (eO es i) (eF es i) = 0
  · exact .inl e
  · obtain ⟨_, _, h3, h4, h5⟩ := ra_fail h h0 hi e
    exact .inr ⟨h4, h5, h3⟩
theorem tl_eq : (es.take (Int.toNat (es.length : Int))).drop (Int.toNat 1) = es.drop 1 := by simp
theorem Lgs.nil : Lgs [] := fun _ h => by cases h
theorem mny_or (h : 0 ≤ i) : (i < (L.length : Int) ∧ mny L (i + 1) = mny L i + ((lg L i).length : Int)) ∨ ((L.length : Int) ≤ i ∧ mny L i = ((flt L).length : Int)) := by
  by_cases e : i < (L.length : Int)
  · exact .inl ⟨e, mny_next h e⟩
  · exact .inr ⟨by omega, mny_all (by omega)⟩
theorem lo_0b (h : flt L = es) : raR W s l (xs, ys, b) es = addn (((flt L).length : Int) - ((flt L).length : Int)) (raR W s l (xs, ys, b) (flt L)) := by
  rw [Int.sub_self, h]; exact (addn_0 _).symm
theorem lo_nil (h : flt L = es) (h0 : (L.length : Int) = 0) : aX W xs ys s b l es = xs ∧ aY W xs ys s b l es = ys ∧ aB W xs ys s b l es = b ∧ aN W xs ys s b l es = 0 ∧ aE W xs ys s b l es = 0 ∧ (flt L).length = 0 := by
  have : L = [] := List.eq_nil_of_length_eq_zero (by omega)
  subst this; subst h
  exact ⟨rfl, rfl, rfl, rfl, rfl, rfl⟩
theorem lo_e1 (h : raR W s l (xs, ys, b) es = addn (n - ((flt L1).length : Int)) (raR W s l (x1, y1, b1) (flt L1))) : 0 < ((flt L1).length : Int) ∨ (((flt L1).length : Int) = 0 ∧ aN W xs ys s b l es = n ∧ aE W xs ys s b l es = 0 ∧ aB W xs ys s b l es = b1) := by
  by_cases e : 0 < ((flt L1).length : Int)
  · exact .inl e
  · obtain ⟨_, _, h3, h4, h5⟩ := lo_end h (by omega)
    exact .inr ⟨by omega, by omega, h5, h3⟩
theorem lo_f1 (h : raR W s l (xs, ys, b) es = addn (n - ((flt L1).length : Int)) (raR W s l (x1, y1, b1) (flt L1))) (h0 : 0 ≤ i) (h1 : i < (L1.length : Int)) (hm : mny L1 i = 0) (hl : 0 < ((lg L1 i).length : Int)) :
    aN W x1 y1 s b1 l [(eO (lg L1 i) 0, eF (lg L1 i) 0)] ≠ 0 ∨ (aN W xs ys s b l es = n - ((flt L1).length : Int) ∧ aE W xs ys s b l es = aE W x1 y1 s b1 l [(eO (lg L1 i) 0, eF (lg L1 i) 0)] ∧ aB W xs ys s b l es = b1) := by
  by_cases e : aN W x1 y1 s b1 l [(eO (lg L1 i) 0, eF (lg L1 i) 0)] = 0
  · obtain ⟨_, _, h3, h4, h5⟩ := lo_fail h h0 h1 hm hl e
    exact .inr ⟨h4, h5, h3⟩
  · exact .inl e
theorem lo_next2 (h : raR W s l (xs, ys, b) es = addn (n - ((flt L1).length : Int)) (raR W s l (x1, y1, b1) (flt L1))) (h0 : 0 ≤ i) (h1 : i < (L1.length : Int)) (hm : mny L1 i = 0) (hl : 0 < ((lg L1 i).length : Int)) (hn : aN W x1 y1 s b1 l [(eO (lg L1 i) 0, eF (lg L1 i) 0)] ≠ 0) :
    raR W s l (xs, ys, b) es = addn (n - ((flt (List.set L1 i.toNat ((lg L1 i).drop 1))).length : Int)) (raR W s l (aX W x1 y1 s b1 l [(eO (lg L1 i) 0, eF (lg L1 i) 0)], aY W x1 y1 s b1 l [(eO (lg L1 i) 0, eF (lg L1 i) 0)], aB W x1 y1 s b1 l [(eO (lg L1 i) 0, eF (lg L1 i) 0)]) (flt (List.set L1 i.toNat ((lg L1 i).drop 1)))) := by
  have h2 := lo_next h h0 h1 hm hl hn
  have h3 := lo_less (L1 := L1) h0 h1 hm hl
  unfold stl at h2 h3
  rw [h2, h3]
  congr 1; omega
end
section
variable {W s l : Int} {xs ys : List Int} {b : Int} {u v : List Ent}
theorem ra_two1 : (aE W xs ys s b l u ≠ 0 ∧ aN W xs ys s b l (u ++ v) = aN W xs ys s b l u ∧ aE W xs ys s b l (u ++ v) = aE W xs ys s b l u) ∨
    (aE W xs ys s b l u = 0 ∧ aN W xs ys s b l (u ++ v) = aN W (aX W xs ys s b l u) (aY W xs ys s b l u) s (aB W xs ys s b l u) l v + aN W xs ys s b l u ∧ aE W xs ys s b l (u ++ v) = aE W (aX W xs ys s b l u) (aY W xs ys s b l u) s (aB W xs ys s b l u) l v ∧ aB W xs ys s b l (u ++ v) = aB W (aX W xs ys s b l u) (aY W xs ys s b l u) s (aB W xs ys s b l u) l v) := by
  rcases ra_two (W := W) (s := s) (l := l) (xs := xs) (ys := ys) (b := b) (es := u) (fs := v) with ⟨h1, _, _, _, h2, h3⟩ | ⟨h1, _, _, h2, h3, h4⟩
  · exact .inl ⟨h1, h2, h3⟩
  · exact .inr ⟨h1, h3, h4, h2⟩
theorem ra_two2 (h : aE W xs ys s b l u = 0) : aX W (aX W xs ys s b l u) (aY W xs ys s b l u) s (aB W xs ys s b l u) l v = aX W xs ys s b l (u ++ v) ∧ aY W (aX W xs ys s b l u) (aY W xs ys s b l u) s (aB W xs ys s b l u) l v = aY W xs ys s b l (u ++ v) := by
  rcases ra_two (W := W) (s := s) (l := l) (xs := xs) (ys := ys) (b := b) (es := u) (fs := v) with ⟨h1, _⟩ | ⟨_, h1, h2, _⟩
  · exact absurd h h1
  · exact ⟨h1.symm, h2.symm⟩
end
theorem len_ua (u v : List Ent) : ((u ++ v).length : Int) = (u.length : Int) + (v.length : Int) := by simp
theorem len_uf (u v : List Ent) : ((flt [u, v]).length : Int) = (u.length : Int) + (v.length : Int) := by rw [flt_two]; simp
end Go.Proofs.Ytnfkgfibinimmaa.X
