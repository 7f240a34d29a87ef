/- From a contract to a law's row: the arguments are opened by their types' cells. -/
import Derived.Test.YtfcohnhfindlmaaXr
import Derived.ProofKit
import Derived.OpenShut
import Derived.SizedLaws
import Derived.Carry
namespace Go.Proofs.Ytfcohnhfindlmaa.X
open Go Go.RowKit

/-! ### The cells' types of a value -/
mutual
def leavesOf (T : Tab) : Nat → Nat → Option (List Nat)
  | 0, _ => none
  | d + 1, t => match fnd T t with
    | some ti => match ti.d with
      | .struct fs => leavesF T d 0 ti.cells fs
      | .arr n e => match leavesOf T d e, fnd T e with
        | some l, some ei => match Nat.beq l.length ei.cells, Nat.beq (n * ei.cells) ti.cells with
          | true, true => some (List.replicate n l).flatten
          | _, _ => none
        | _, _ => none
      | .other => none
      | _ => some [t]
    | none => none
def leavesF (T : Tab) : Nat → Nat → Nat → List (Nat × Nat) → Option (List Nat)
  | 0, _, _, _ => none
  | _ + 1, off, total, [] => match Nat.beq off total with
    | true => some []
    | false => none
  | d + 1, off, total, (o, ft) :: fs => match leavesOf T d ft, fnd T ft with
    | some l, some fi => match Nat.beq o off, Nat.beq l.length fi.cells, leavesF T d (off + fi.cells) total fs with
      | true, true, some r => some (l ++ r)
      | _, _, _ => none
    | _, _ => none
end

section
variable {H : Type} {enc : TypeId × Value → H} {P : Program} {T : Tab} {W : World}

abbrev RdTrod (enc : TypeId × Value → H) (P : Program) (W : World) (fuel t : Nat) (cs : List Value) := DataW.trod enc P W 0 (fun _ => true) true fuel t cs

/-- Each cell reads by its type, and weighs no more than B. -/
def Rd (enc : TypeId × Value → H) (P : Program) (W : World) (B : Nat) : List Nat → List Value → Prop
  | [], cs => cs = []
  | u :: us, cs => ∃ c r fuel y, cs = c :: r ∧ RdTrod enc P W fuel u [c] = some y ∧ (∀ q ∈ y.1.weights P u, q ≤ B) ∧ Rd enc P W B us r

theorem Rd.append {B : Nat} : ∀ {a b : List Nat} {x y : List Value}, Rd enc P W B a x → Rd enc P W B b y → Rd enc P W B (a ++ b) (x ++ y)
  | [], b, x, y, hx, hy => by cases hx; exact hy
  | u :: a, b, x, y, hx, hy => by
    obtain ⟨c, r, f, z, rfl, h1, h2, h3⟩ := hx
    exact ⟨c, r ++ y, f, z, rfl, h1, h2, Rd.append h3 hy⟩

theorem TIok.cellsOf {t : Nat} {ti : TI} (h : TIok P t ti) : P.cellsOf t = ti.cells := by
  have hi := h.info
  unfold Program.cellsOf
  cases hq : P.info? t with
  | none => rw [hq] at hi; cases hi
  | some i => rw [hq] at hi; simp at hi; simp [hi.1]

theorem weightsAll_mem {e : Nat} : ∀ {l : List (DataW H)} {x : DataW H} {q : Nat}, x ∈ l → q ∈ x.weights P e → q ∈ DataW.weightsAll P e l
  | d :: r, x, q, hx, hq => by
    simp only [DataW.weightsAll, List.mem_append]
    rcases List.mem_cons.1 hx with rfl | hx
    · exact .inl hq
    · exact .inr (weightsAll_mem hx hq)

theorem take_len {α : Type} (cs : List α) (n : Nat) : cs = cs.take n ++ cs.drop n := (List.take_append_drop n cs).symm

mutual
theorem leaves_rd (hT : TabOk P T) {B : Nat} : ∀ (d t : Nat) (ts : List Nat), leavesOf T d t = some ts → ∀ (fuel : Nat) (cs : List Value) (x : DataW H × List MemPlace), RdTrod enc P W fuel t cs = some x → (∀ q ∈ x.1.weights P t, q ≤ B) → Rd enc P W B ts cs
  | 0, _, _, h, _, _, _, _, _ => by simp [leavesOf] at h
  | d + 1, t, ts, h, fuel, cs, x, hx, hq => by
    simp only [leavesOf] at h
    split at h
    · rename_i ti hti
      have hok := hT t ti hti
      have one : ts = [t] → (∃ c, cs = [c]) → Rd enc P W B ts cs := by
        rintro rfl ⟨c, rfl⟩
        exact ⟨c, [], fuel, x, rfl, hx, hq, rfl⟩
      split at h
      · -- struct
        rename_i fs hd
        have hde := hok.desc
        rw [hd] at hde
        simp only [DescOk] at hde
        cases hu : P.underlying t with
        | none => rw [hu] at hde; cases hde
        | some D =>
          rw [hu] at hde
          cases D <;> simp only [Option.bind_some, structFs, Option.some.injEq, reduceCtorEq] at hde
          rename_i fa
          obtain ⟨xs, n, rfl, rfl, hlen, hxl, hf⟩ := DataW.trod_struct hu hx
          rw [hok.cellsOf] at hlen
          have key := leavesF_rd hT (B := B) d 0 ti.cells fs ts h fa.toList hde n cs xs (by simpa using hxl) hlen (fun i f hi => hf i f (by simpa using hi)) ?_
          · simpa using key
          · intro i f y hi hy q hq2
            refine hq q ?_
            simp only [DataW.weights, hu]
            refine DataW.weights_mem_each (j := i) (t := f.type) (d := y.1) ?_ ?_ q hq2
            · rw [List.getElem?_map, hi]; rfl
            · rw [List.getElem?_map, hy]; rfl
      · -- array
        rename_i n e hd
        have hde : P.underlying t = some (.array n e) := by have := hok.desc; rwa [hd] at this
        split at h
        · rename_i l ei hl hei
          split at h
          · rename_i hb1 hb2
            cases h
            have hb1 := Nat.eq_of_beq_eq_true hb1; have hb2 := Nat.eq_of_beq_eq_true hb2
            obtain ⟨xs, m, rfl, rfl, hlen, hxl, hf⟩ := DataW.trod_array hde hx
            rw [hok.cellsOf, ← hb2] at hlen
            have hce : P.cellsOf e = ei.cells := (hT e ei hei).cellsOf
            have hq' : ∀ y ∈ xs, ∀ q ∈ y.1.weights P e, q ≤ B := fun y hy q hq2 => by
              refine hq q ?_
              simp only [DataW.weights, hde]
              exact weightsAll_mem (List.mem_map_of_mem hy) hq2
            have key : ∀ k, k ≤ n → Rd enc P W B (List.replicate k l).flatten (cs.take (k * ei.cells)) := by
              intro k
              induction k with
              | zero => intro _; simp [Rd]
              | succ k ih =>
                intro hk
                have h1 := ih (by omega)
                have h2 := hf k (by omega)
                rw [hce] at h2
                have h3 := List.getElem?_eq_getElem (l := xs) (i := k) (by omega)
                rw [h3] at h2
                have h4 := leaves_rd hT (B := B) d e l hl m _ _ h2 (hq' _ (List.getElem_mem _))
                rw [List.replicate_succ', List.flatten_append, List.flatten_singleton, Nat.succ_mul, List.take_add]
                exact h1.append h4
            have := key n (Nat.le_refl _)
            rwa [List.take_of_length_le (by omega)] at this
          · cases h
        · cases h
      · cases h
      · rename_i h1 h2 h3
        cases h
        refine one rfl ?_
        cases hd : ti.d with
        | bool =>
          have hde : P.underlying t = some .bool := by have := hok.desc; rwa [hd] at this
          obtain ⟨b, rfl, _⟩ := DataW.trod_bool hde hx
          exact ⟨_, rfl⟩
        | int k =>
          have hde : P.underlying t = some (.int k) := by have := hok.desc; rwa [hd] at this
          obtain ⟨b, rfl, _⟩ := DataW.trod_int hde hx
          exact ⟨_, rfl⟩
        | slice e =>
          have hde : P.underlying t = some (.slice e) := by have := hok.desc; rwa [hd] at this
          rcases DataW.trod_slice hde hx with ⟨rfl, _⟩ | ⟨a, len, cap, _, _, _, _, rfl, _⟩ <;> exact ⟨_, rfl⟩
        | struct fs => exact absurd hd (h1 fs)
        | arr n e => exact absurd hd (h2 n e)
        | other => exact absurd hd h3
    · cases h
theorem leavesF_rd (hT : TabOk P T) {B : Nat} : ∀ (d off total : Nat) (fs : List (Nat × Nat)) (ts : List Nat), leavesF T d off total fs = some ts → ∀ (fa : List Field), fa.map (fun f => (f.offset, f.type)) = fs → ∀ (n : Nat) (cs : List Value) (xs : List (DataW H × List MemPlace)),
    xs.length = fa.length → cs.length = total → (∀ (i : Nat) (f : Field), fa[i]? = some f → RdTrod enc P W n f.type ((cs.drop f.offset).take (P.cellsOf f.type)) = xs[i]?) → (∀ (i : Nat) (f : Field) (y : DataW H × List MemPlace), fa[i]? = some f → xs[i]? = some y → ∀ q ∈ y.1.weights P f.type, q ≤ B) → Rd enc P W B ts (cs.drop off)
  | 0, _, _, _, _, h, _, _, _, _, _, _, _, _, _ => by simp [leavesF] at h
  | d + 1, off, total, [], ts, h, fa, hfa, n, cs, xs, hl, hc, hf, hq => by
    simp only [leavesF] at h
    split at h
    · rename_i hb
      cases h
      have := Nat.eq_of_beq_eq_true hb
      simp only [Rd]
      exact List.drop_eq_nil_of_le (by omega)
    · cases h
  | d + 1, off, total, (o, ft) :: fs, ts, h, fa, hfa, n, cs, xs, hl, hc, hf, hq => by
    simp only [leavesF] at h
    split at h
    · rename_i l fi hl1 hfi
      split at h
      · rename_i r hb1 hb2 hr
        cases h
        have hb1 := Nat.eq_of_beq_eq_true hb1; have hb2 := Nat.eq_of_beq_eq_true hb2
        cases fa with
        | nil => cases hfa
        | cons f fa =>
          simp only [List.map_cons, List.cons.injEq, Prod.mk.injEq] at hfa
          obtain ⟨⟨ho, hft⟩, hrest⟩ := hfa
          cases xs with
          | nil => cases hl
          | cons y xs =>
            have h0 := hf 0 f rfl
            have hce : P.cellsOf f.type = fi.cells := by rw [hft]; exact (hT ft fi hfi).cellsOf
            rw [hce, ho, hb1] at h0
            have h1 := leaves_rd hT (B := B) d ft l hl1 n _ _ (by rw [← hft]; exact h0) (by rw [← hft]; exact hq 0 f y rfl rfl)
            have h2 := leavesF_rd hT (B := B) d (off + fi.cells) total fs r hr fa hrest n cs xs (by simpa using hl) hc (fun i f hi => hf (i + 1) f hi) (fun i f y hi hy => hq (i + 1) f y hi hy)
            rw [← List.drop_drop] at h2
            have h3 := h1.append h2
            rwa [List.take_append_drop] at h3
      · cases h
    · cases h
end

/-! ### A cell as a symbolic value -/
inductive Lf where
  | bool | int (k : IntKind) | ints (k : IntKind) (bytes : Nat)
def kindOf (T : Tab) (u : Nat) : Option Lf := match fnd T u with
  | some ti => match ti.d with
    | .bool => some .bool
    | .int k => some (.int k)
    | .slice e => match fnd T e with
      | some ei => match ei.d, Nat.beq ei.cells 1 with
        | .int k, true => some (.ints k ei.bytes)
        | _, _ => none
      | none => none
    | _ => none
  | none => none
def kindsOf (T : Tab) : List Nat → Option (List Lf)
  | [] => some []
  | u :: us => match kindOf T u, kindsOf T us with
    | some k, some r => some (k :: r)
    | _, _ => none
def Lv (B : Nat) : Lf → SV → Prop
  | .bool, s => ∃ b, s = .bool b
  | .int k, s => ∃ n, s = .int k n ∧ (Lit.int k n).wf = true
  | .ints k z, s => ∃ ns : List Int, s = .sl false 1 (ns.map (SV.int k)) ∧ (∀ n ∈ ns, (Lit.int k n).wf = true) ∧ ns.length * z ≤ B
def LvAll (B : Nat) : List Lf → List SV → Prop
  | [], l => l = []
  | k :: ks, l => ∃ s r, l = s :: r ∧ Lv B k s ∧ LvAll B ks r

/-- The cells that a call meets, shared. -/
def Gh0 (W : World) : Gh := ⟨fun b => match W.heap[b]? with
  | some (.cells arr _ _) => some arr.toList
  | _ => none, 0⟩
theorem gh0_ok (W : World) : PubOk (Gh0 W) W := fun b cs h => by
  simp only [Gh0] at h
  split at h
  · rename_i arr E fz hq
    cases h
    exact ⟨E, fz, by simp [hq]⟩
  · cases h
theorem gh0_old {W : World} {b : Nat} (h : Gh0 W b ≠ none) : b < W.heap.size := by
  simp only [Gh0] at h
  split at h
  · rename_i hq; exact (Array.getElem?_eq_some_iff.1 hq).1
  · exact absurd rfl h

theorem row_off : ∀ (d : Nat) (fits : TypeId → Bool) (e count off n : Nat), rowAt P fits d e count off n = true → off ≤ count * P.cellsOf e
  | 0, _, _, _, _, _, h => by simp [rowAt] at h
  | d + 1, fits, e, count, off, n, h => by
    simp only [rowAt] at h
    split at h
    · cases h
    · rename_i hs
      have hdm := Nat.div_add_mod off (P.cellsOf e)
      have hlt := Nat.mod_lt off (Nat.pos_of_ne_zero hs)
      have hc := Nat.mul_comm count (P.cellsOf e)
      simp only [Bool.or_eq_true, Bool.and_eq_true, decide_eq_true_eq, beq_iff_eq] at h
      rcases h with ⟨⟨h1, h2⟩, _⟩ | ⟨h1, _⟩
      · have : P.cellsOf e * (off / P.cellsOf e) ≤ P.cellsOf e * count := Nat.mul_le_mul_left _ (by omega)
        omega
      · have : P.cellsOf e * (off / P.cellsOf e + 1) ≤ P.cellsOf e * count := Nat.mul_le_mul_left _ (by omega)
        rw [Nat.mul_succ] at this
        omega
theorem lies_off : ∀ (d : Nat) (e count off u n : Nat), liesAt P d e count off u n = true → off ≤ count * P.cellsOf e
  | 0, _, _, _, _, _, h => by simp [liesAt] at h
  | d + 1, e, count, off, u, n, h => by
    simp only [liesAt, Bool.or_eq_true] at h
    rcases h with h | h
    · exact row_off _ _ _ _ _ _ h
    · split at h
      · exact lies_off d _ _ _ _ _ h
      · cases h

theorem leaf_ok (hT : TabOk P T) {B u base fuel : Nat} {k : Lf} {c : Value} {y : DataW H × List MemPlace} (hk : kindOf T u = some k) (h : RdTrod enc P W fuel u [c] = some y) (hv : Cell.okWide P W .any base u c) (hq : ∀ q ∈ y.1.weights P u, q ≤ B) :
    ∃ s, Lv B k s ∧ Den (Gh0 W) Env.nil s c ∧ s.single = true := by
  unfold kindOf at hk
  split at hk
  · rename_i ti hti
    have hok := hT u ti hti
    split at hk
    · rename_i hd
      cases hk
      have hde : P.underlying u = some .bool := by have := hok.desc; rwa [hd] at this
      obtain ⟨b, e, _⟩ := DataW.trod_bool hde h
      cases e
      exact ⟨.bool b, ⟨b, rfl⟩, by simp only [Den], rfl⟩
    · rename_i k hd
      cases hk
      have hde : P.underlying u = some (.int k) := by have := hok.desc; rwa [hd] at this
      obtain ⟨n, e, _, hw⟩ := DataW.trod_int hde h
      cases e
      exact ⟨.int k n, ⟨n, rfl, hw⟩, by simp only [Den], rfl⟩
    · rename_i e hd
      have hde : P.underlying u = some (.slice e) := by have := hok.desc; rwa [hd] at this
      split at hk
      · rename_i ei hei
        split at hk
        · rename_i k hek hz
          cases hk
          have hz := Nat.eq_of_beq_eq_true hz
          have heok := hT e ei hei
          have hee : P.underlying e = some (.int k) := by have := heok.desc; rwa [hek] at this
          have hce : P.cellsOf e = 1 := heok.cellsOf.trans hz
          have hbe : P.bytesOf e = ei.bytes := by
            have hi := heok.info
            unfold Program.bytesOf
            cases hq : P.info? e with
            | none => rw [hq] at hi; cases hi
            | some i => rw [hq] at hi; simp at hi; simp [hi.2]
          rcases ChangeShapes.open_ints hde hee hce h with ⟨e1, _⟩ | ⟨a, len, cap, zs, e1, _, hl, hm, hlen, rfl, hcell, hwf⟩
          · cases e1
            exact ⟨.sl false 1 [], ⟨[], rfl, by simp, by simp⟩, by simp [Den], rfl⟩
          · cases e1
            simp only [if_true] at hlen
            have hhas : W.has P .any base a e cap := by
              simp only [Cell.okWide, hde, Cell.ok] at hv
              exact hv.2.2
            obtain ⟨_, hspot, row, cells, hsh, hlies⟩ := hhas
            obtain ⟨ab, ao, as⟩ := a
            simp only at hspot; subst hspot
            unfold World.shape? at hsh
            split at hsh
            · rename_i arr elem fz hblk
              simp only [Option.some.injEq, Prod.mk.injEq] at hsh
              obtain ⟨rfl, rfl⟩ := hsh
              simp only at hblk hlies
              have hoff : ao ≤ arr.size := Nat.le_trans (lies_off _ _ _ _ _ _ hlies) (Nat.div_mul_le_self _ _)
              have hread : ∀ i, i < zs.length → arr[ao + i]? = some (.int k (zs.getD i 0)) := fun i hi => by
                have h1 := hcell i hi
                have hadd : Addr.add ⟨ab, ao, none⟩ i = ⟨ab, ao + i, none⟩ := by unfold Addr.add; split <;> simp_all
                rw [hadd] at h1
                simpa [World.cell?, hblk] using h1
              have hsize : ao + cap ≤ arr.size := by
                cases hc : cap with
                | zero => simpa using hoff
                | succ m =>
                  have := hread m (by omega)
                  have := (Array.getElem?_eq_some_iff.1 this).1
                  omega
              refine ⟨.sl false 1 ((zs.take len).map (SV.int k)), ⟨zs.take len, rfl, fun n hn => hwf n (List.mem_of_mem_take hn), ?_⟩, ?_, rfl⟩
              · have h1 := hq (((ChangeShapes.lits (H := H) k (zs.take len)).length + (ChangeShapes.lits (H := H) k (zs.drop len)).length) * P.bytesOf e) (by simp only [DataW.weights, hde]; exact List.mem_cons_self)
                rw [hbe] at h1
                refine Nat.le_trans (Nat.mul_le_mul_right _ ?_) h1
                simp [ChangeShapes.lits]
              · simp only [Den]
                have hll : ((zs.take len).map (SV.int k)).length = len := by simp; omega
                refine .inr ⟨ab, ao, cap, arr.toList, by rw [hll], by rw [hll]; exact hl, by simp, by simp [Gh0, hblk], by simpa using hsize, ?_⟩
                have hE : ∀ (m j : Nat), j + m = len → DenE (Gh0 W) 1 (((zs.drop j).take m).map (SV.int k)) (arr.toList.drop (ao + j)) := by
                  intro m
                  induction m with
                  | zero => intro j _; simp [DenE]
                  | succ m ih =>
                    intro j hj
                    have hjl : j < zs.length := by omega
                    have h1 := hread j hjl
                    have h2 : arr.toList.drop (ao + j) = .int k (zs.getD j 0) :: arr.toList.drop (ao + j + 1) := by
                      obtain ⟨hlt, he⟩ := Array.getElem?_eq_some_iff.1 h1
                      rw [List.drop_eq_getElem_cons (by simpa using hlt), Array.getElem_toList, he]
                    have h3 : zs.drop j = zs.getD j 0 :: zs.drop (j + 1) := by
                      rw [List.drop_eq_getElem_cons hjl]; simp [hjl]
                    rw [h2, h3, List.take_succ_cons, List.map_cons]
                    refine ⟨⟨.int k (zs.getD j 0), by simp only [Den], rfl, rfl⟩, ?_⟩
                    exact ih (j + 1) (by omega)
                have := hE len 0 (by omega)
                simpa using this
            · cases hsh
        · cases hk
      · cases hk
    · cases hk
  · cases hk

theorem open_cells (hT : TabOk P T) {B base : Nat} : ∀ (ts : List Nat) (ks : List Lf) (cs : List Value), kindsOf T ts = some ks → Rd enc P W B ts cs → (∀ (i : Nat) (u : Nat) (c : Value), ts[i]? = some u → cs[i]? = some c → Cell.okWide P W .any base u c) →
    ∃ l, LvAll B ks l ∧ DenL (Gh0 W) Env.nil l cs
  | [], ks, cs, hk, hr, _ => by
    simp only [kindsOf, Option.some.injEq] at hk
    subst hk
    simp only [Rd] at hr
    subst hr
    exact ⟨[], rfl, by simp only [DenL]⟩
  | u :: ts, ks, cs, hk, hr, hv => by
    simp only [kindsOf] at hk
    split at hk
    · rename_i k r hk1 hk2
      cases hk
      obtain ⟨c, r', fuel, y, rfl, h1, h2, h3⟩ := hr
      obtain ⟨s, g1, g2, _⟩ := leaf_ok hT hk1 h1 (hv 0 u c rfl rfl) h2
      obtain ⟨l, g3, g4⟩ := open_cells hT ts r r' hk2 h3 (fun i u c hu hc => hv (i + 1) u c hu hc)
      exact ⟨s :: l, ⟨s, l, rfl, g1, g3⟩, by simp only [DenL]; exact ⟨c, r', rfl, g2, g4⟩⟩
    · cases hk

theorem Rd.length {B : Nat} : ∀ {ts : List Nat} {cs : List Value}, Rd enc P W B ts cs → cs.length = ts.length
  | [], cs, h => by cases h; rfl
  | u :: ts, cs, h => by
    obtain ⟨c, r, _, _, rfl, _, _, h3⟩ := h
    simp [Rd.length h3]

def natsEq : List Nat → List Nat → Bool
  | [], [] => true
  | a :: l, b :: m => match Nat.beq a b with
    | true => natsEq l m
    | false => false
  | _, _ => false
theorem natsEq_spec : ∀ {l m : List Nat}, natsEq l m = true → l = m
  | [], [], _ => rfl
  | a :: l, b :: m, h => by
    simp only [natsEq] at h
    split at h
    · rename_i hb; rw [Nat.eq_of_beq_eq_true hb, natsEq_spec h]
    · cases h

/-- One parameter: whether it is a row of cells, and its cells' kinds. -/
def shapeOf (P : Program) (T : Tab) (d t : Nat) : Option (Bool × List Lf) :=
  match fnd T t, leavesOf T d t with
  | some ti, some ts => match kindsOf T ts, ti.agg with
    | some ks, true => match P.cellTypes P.depth t with
      | some us => match natsEq us ts with
        | true => some (true, ks)
        | false => none
      | none => none
    | some ks, false => match natsEq ts [t] with
      | true => some (false, ks)
      | false => none
    | none, _ => none
  | _, _ => none
def shapesOf (P : Program) (T : Tab) (d : Nat) : List Nat → Option (List (Bool × List Lf))
  | [] => some []
  | t :: ts => match shapeOf P T d t, shapesOf P T d ts with
    | some x, some r => some (x :: r)
    | _, _ => none
def ArgsLv (B : Nat) : List (Bool × List Lf) → List SV → Prop
  | [], l => l = []
  | (true, ks) :: r, l => ∃ x m, l = .agg x :: m ∧ LvAll B ks x ∧ ArgsLv B r m
  | (false, ks) :: r, l => ∃ s m, l = s :: m ∧ LvAll B ks [s] ∧ ArgsLv B r m

theorem open_val (hT : TabOk P T) {B base d t : Nat} {b : Bool} {ks : List Lf} (h : shapeOf P T d t = some (b, ks)) {v : Value} {dd : DataW H} {ps : List MemPlace} (hv : Value.okWide P W .any base t v) (hr : DataW.Trod enc P W 0 (fun _ => true) true t v dd ps) (hq : ∀ q ∈ dd.weights P t, q ≤ B) :
    (b = true → ∃ l, LvAll B ks l ∧ Den (Gh0 W) Env.nil (.agg l) v) ∧ (b = false → ∃ s, LvAll B ks [s] ∧ Den (Gh0 W) Env.nil s v) := by
  unfold shapeOf at h
  split at h
  · rename_i ti ts hti hts
    have hok := hT t ti hti
    obtain ⟨fuel, hf⟩ := hr
    have hrd := leaves_rd hT (B := B) d t ts hts fuel _ _ hf hq
    split at h
    · rename_i ks' hk hagg
      split at h
      · rename_i us hus
        split at h
        · rename_i he
          cases h
          have he := natsEq_spec he
          subst he
          refine ⟨fun _ => ?_, fun e => by cases e⟩
          have hu := hok.und
          rw [hagg] at hu
          obtain ⟨cs, rfl, hsz, hrow⟩ : ∃ cs, v = .agg cs ∧ cs.size = P.cellsOf t ∧ Row.okWide P W .any base t cs := by
            unfold Value.okWide at hv
            cases hD : P.underlying t with
            | none => rw [hD] at hu; cases hu
            | some D =>
              rw [hD] at hu hv
              cases D <;> first | exact hv | (simp [isAggD] at hu)
          obtain ⟨us', hus', _, hcell⟩ := hrow
          rw [hus] at hus'
          cases hus'
          have hcells : (Value.agg cs).cells = cs := rfl
          rw [hcells] at hrd
          obtain ⟨l, h1, h2⟩ := open_cells hT us ks cs.toList hk hrd (fun i u c hu2 hc => by
            have hi := (List.getElem?_eq_some_iff.1 hu2).1
            obtain ⟨u', h3, h4⟩ := hcell i c (by simpa using hc)
            rw [Nat.mod_eq_of_lt hi, hu2] at h3
            cases h3; exact h4)
          exact ⟨l, h1, by simp only [Den]; exact ⟨cs, rfl, h2⟩⟩
        · cases h
      · cases h
    · rename_i ks' hk hagg
      split at h
      · rename_i he
        cases h
        have he := natsEq_spec he
        subst he
        refine ⟨fun e => by (cases e), fun _ => ?_⟩
        have hu := hok.und
        rw [hagg] at hu
        have hv' : Cell.okWide P W .any base t v := by
          unfold Value.okWide at hv
          cases hD : P.underlying t with
          | none => rw [hD] at hu; cases hu
          | some D =>
            rw [hD] at hu hv
            cases D <;> first | exact hv | (simp [isAggD] at hu)
        have hrd2 := hrd
        obtain ⟨c, r, fuel', y, hc, h1, h2, h3⟩ := hrd2
        simp only [Rd] at h3
        subst h3
        have hone : v.cells = #[v] := by
          cases v with
          | agg cs =>
            exfalso
            unfold Cell.okWide at hv'
            cases hD : P.underlying t with
            | none => rw [hD] at hv'; simp [Cell.ok, hD] at hv'
            | some D => rw [hD] at hv'; cases D <;> simp [Cell.ok, hD] at hv'
          | _ => rfl
        rw [hone] at hc hrd
        cases hc
        obtain ⟨l, g1, g2⟩ := open_cells hT [t] ks [v] hk hrd (fun i u c hu2 hc => by
          cases i with
          | zero => cases hu2; cases hc; exact hv'
          | succ i => simp at hu2)
        match l, g2 with
        | [s], g2 =>
          simp only [DenL] at g2
          obtain ⟨v', r', e, h5, _⟩ := g2
          cases e
          exact ⟨s, g1, h5⟩
        | [], g2 => simp [DenL] at g2
        | s1 :: s2 :: l', g2 =>
          have := DenL.length g2
          simp at this
      · cases h
    · cases h
  · cases h

theorem open_args (hT : TabOk P T) {B base d : Nat} : ∀ (ps : List Nat) (sh : List (Bool × List Lf)) (vs : List Value) (ds : List (DataW H)) (pl : List MemPlace), shapesOf P T d ps = some sh → DataW.TrodAll enc P W 0 (fun _ => true) true ps vs ds pl → (∀ (j : Nat) t v, ps[j]? = some t → vs[j]? = some v → Value.okWide P W .any base t v) →
    (∀ q ∈ DataW.weightsEach P ps ds, q ≤ B) → ∃ l, ArgsLv B sh l ∧ DenL (Gh0 W) Env.nil l vs
  | [], sh, vs, ds, pl, hs, ht, _, _ => by
    simp only [shapesOf, Option.some.injEq] at hs
    subst hs
    cases vs <;> cases ds <;> simp only [DataW.TrodAll] at ht
    exact ⟨[], rfl, by simp only [DenL]⟩
  | t :: ps, sh, vs, ds, pl, hs, ht, hv, hq => by
    simp only [shapesOf] at hs
    split at hs
    · rename_i x r hx hr
      cases hs
      cases vs with
      | nil => simp only [DataW.TrodAll] at ht
      | cons v vs =>
        cases ds with
        | nil => simp only [DataW.TrodAll] at ht
        | cons dd ds =>
          obtain ⟨p, q, h1, h2, rfl⟩ := ht
          obtain ⟨b, ks⟩ := x
          have hq1 : ∀ q ∈ dd.weights P t, q ≤ B := fun q hq2 => hq q (by simp only [DataW.weightsEach, List.mem_append]; exact .inl hq2)
          have hq2 : ∀ q ∈ DataW.weightsEach P ps ds, q ≤ B := fun q hq2 => hq q (by simp only [DataW.weightsEach, List.mem_append]; exact .inr hq2)
          obtain ⟨g1, g2⟩ := open_val hT hx (hv 0 t v rfl rfl) h1 hq1
          obtain ⟨l, g3, g4⟩ := open_args hT ps r vs ds q hr h2 (fun j t v ht hv2 => hv (j + 1) t v ht hv2) hq2
          cases b with
          | true =>
            obtain ⟨m, k1, k2⟩ := g1 rfl
            exact ⟨.agg m :: l, ⟨m, l, rfl, k1, g3⟩, by simp only [DenL]; exact ⟨v, vs, rfl, k2, g4⟩⟩
          | false =>
            obtain ⟨s, k1, k2⟩ := g2 rfl
            exact ⟨s :: l, ⟨s, l, rfl, k1, g3⟩, by simp only [DenL]; exact ⟨v, vs, rfl, k2, g4⟩⟩
    · cases hs

theorem trodAll_below (hl : laidOutB P = true) {W' : World} (hb : Below W.heap.size W W') : ∀ {ts : List Nat} {vs : List Value} {ds : List (DataW H)} {ps : List MemPlace}, (∀ t ∈ ts, P.readableRec t = true ∧ t < P.types.size) → DataW.TrodAll enc P W 0 (fun _ => true) true ts vs ds ps → (∀ x ∈ ps, x.block < W.heap.size) →
    DataW.TrodAll enc P W' 0 (fun b => decide (b < W.heap.size)) true ts vs ds ps
  | [], vs, ds, ps, _, h, _ => by
    cases vs <;> cases ds <;> simp only [DataW.TrodAll] at h ⊢
    exact h
  | t :: ts, vs, ds, ps, hr, h, hlt => by
    cases vs with
    | nil => simp only [DataW.TrodAll] at h
    | cons v vs =>
      cases ds with
      | nil => simp only [DataW.TrodAll] at h
      | cons d ds =>
        obtain ⟨p, q, h1, h2, rfl⟩ := h
        obtain ⟨r1, r2⟩ := hr t (by simp)
        exact ⟨p, q, Below.trod hl r1 r2 h1 hb (fun x hx => hlt x (by simp [hx])), trodAll_below hl hb (fun t ht => hr t (by simp [ht])) h2 (fun x hx => hlt x (by simp [hx])), rfl⟩

/-- A law: the contract for all its arguments gives what the row says. -/
theorem law_post (hT : TabOk P T) (hlaid : laidOutB P = true) {f : Nat} {fn : Func} {s : ChangeSpec} {tb d : Nat} {sh : List (Bool × List Lf)} {before : List MemPlace} {args : Array Value} {base : Nat} {ds gs : List (DataW H)}
    (hres : fn.resultTypes = #[tb]) (hbool : P.underlying tb = some .bool) (hvars : s.vars = []) (hsh : shapesOf P T d fn.params.toList = some sh) (hrow : (fn.params.toList.all fun t => P.readableRec t && Nat.blt t P.types.size) = true)
    (hfn0 : ∀ ds : List (DataW H), ds.length = fn.params.size → (s.fn H ds) = { results := [.lit (.bool true)], args := ds })
    (hval : ∀ (j : Nat) t v, fn.params[j]? = some t → args[j]? = some v → Value.okWide P W .any base t v)
    (hW : DataW.Whole enc P fn.params.toList s.vars false W args.toList ds gs before)
    (hsz : (DataW.weightsEach P (fn.params.toList ++ s.plain.varTypes P) (ds ++ gs)).all (· ≤ reachBytes) = true)
    (hlaw : ∀ l, ArgsLv reachBytes sh l → Pub P f l (fun t => t = .bool true)) :
    Calls P f args W fun e W' => ∃ v, e = .returned v ∧ s.post enc P fn false true false false W args v W' := by
  have hW0 := hW
  obtain ⟨p, q, hA, hV, rfl, _, _⟩ := hW
  have hfn : (s.fn H ds) = { results := [.lit (.bool true)], args := ds } := hfn0 ds (by
    have hl : ∀ (ts : List Nat) (vs : List Value) (ds : List (DataW H)) (ps : List MemPlace), DataW.TrodAll enc P W 0 (fun _ => true) true ts vs ds ps → ds.length = ts.length := by
      intro ts
      induction ts with
      | nil => intro vs ds ps h; cases vs <;> cases ds <;> simp only [DataW.TrodAll] at h; rfl
      | cons t ts ih =>
        intro vs ds ps h
        cases vs with
        | nil => simp only [DataW.TrodAll] at h
        | cons v vs =>
          cases ds with
          | nil => simp only [DataW.TrodAll] at h
          | cons d ds =>
            obtain ⟨p, q', h1, h2, _⟩ := h
            simp [ih vs ds q' h2]
    simpa using hl _ _ _ _ hA)
  have hsz' : ∀ q ∈ DataW.weightsEach P fn.params.toList ds, q ≤ reachBytes := by
    have hlen : ∀ (ts : List Nat) (vs : List Value) (ds : List (DataW H)) (ps : List MemPlace), DataW.TrodAll enc P W 0 (fun _ => true) true ts vs ds ps → ∀ us es q, q ∈ DataW.weightsEach P ts ds → q ∈ DataW.weightsEach P (ts ++ us) (ds ++ es) := by
      intro ts
      induction ts with
      | nil => intro vs ds ps h us es q hq; cases ds <;> simp [DataW.weightsEach] at hq
      | cons t ts ih =>
        intro vs ds ps h us es q hq
        cases vs with
        | nil => simp only [DataW.TrodAll] at h
        | cons v vs =>
          cases ds with
          | nil => simp only [DataW.TrodAll] at h
          | cons d ds =>
            obtain ⟨p, q', h1, h2, _⟩ := h
            simp only [List.cons_append, DataW.weightsEach, List.mem_append] at hq ⊢
            exact hq.imp id (ih vs ds q' h2 us es q)
    intro q hq
    have := List.all_eq_true.1 hsz q (hlen _ _ _ _ hA _ _ q hq)
    simpa using this
  obtain ⟨l, h1, h2⟩ := open_args hT fn.params.toList sh args.toList ds p hsh hA (fun j t v ht hv => hval j t v (by simpa using ht) (by simpa using hv)) hsz'
  have hcall := (hlaw l h1).2 (Gh0 W) W args.toList (gh0_ok W) h2
  rw [Array.toArray_toList] at hcall
  refine hcall.mono ?_
  rintro e W' ⟨v, sv, Γ', rfl, rfl, hden, _, _, hbel, _⟩
  simp only [Den] at hden
  subst hden
  have hlt : ∀ x ∈ p, x.block < W.heap.size := fun x hx => by
    have := hW0.lt x (by simp [hx])
    simpa using this
  have hg : gs = [] ∧ q = [] := by
    rw [hvars] at hV
    cases gs with
    | nil => exact ⟨rfl, hV⟩
    | cons g gs => exact hV.elim
  obtain ⟨rfl, rfl⟩ := hg
  refine ⟨_, rfl, ds, [], p ++ [], [], p, [], hW0, ?_, ?_, ?_, hbel.frame _, fun h => by cases h⟩
  · rw [List.append_nil, hfn, hres]
    exact ⟨[], [], ⟨1, by simp [DataW.trod, hbool, Value.cells]⟩, rfl, rfl⟩
  · rw [List.append_nil, hfn]
    refine trodAll_below hlaid hbel (fun t ht => ?_) hA hlt
    have := List.all_eq_true.1 hrow t ht
    simpa using this
  · rw [hvars, List.append_nil, hfn]; rfl

theorem len1 {α : Type} {l : List α} (h : l.length = 1) : ∃ a, l = [a] := by
  match l, h with
  | [a], _ => exact ⟨a, rfl⟩
theorem len2 {α : Type} {l : List α} (h : l.length = 2) : ∃ a b, l = [a, b] := by
  match l, h with
  | [a, b], _ => exact ⟨a, b, rfl⟩
theorem len3 {α : Type} {l : List α} (h : l.length = 3) : ∃ a b c, l = [a, b, c] := by
  match l, h with
  | [a, b, c], _ => exact ⟨a, b, c, rfl⟩
theorem len4 {α : Type} {l : List α} (h : l.length = 4) : ∃ a b c d, l = [a, b, c, d] := by
  match l, h with
  | [a, b, c, d], _ => exact ⟨a, b, c, d, rfl⟩
theorem len5 {α : Type} {l : List α} (h : l.length = 5) : ∃ a b c d e, l = [a, b, c, d, e] := by
  match l, h with
  | [a, b, c, d, e], _ => exact ⟨a, b, c, d, e, rfl⟩
theorem len6 {α : Type} {l : List α} (h : l.length = 6) : ∃ a b c d e f, l = [a, b, c, d, e, f] := by
  match l, h with
  | [a, b, c, d, e, f], _ => exact ⟨a, b, c, d, e, f, rfl⟩
end
end Go.Proofs.Ytfcohnhfindlmaa.X
