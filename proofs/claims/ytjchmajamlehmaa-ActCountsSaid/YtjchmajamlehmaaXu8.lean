/- Whether a thread can do something; right heaps' threads. No program in sight. -/
import Derived.Test.YtjchmajamlehmaaXu6
namespace Go.Proofs.Ytjchmajamlehmaa.X
open Go Go.RowKit
set_option linter.unusedVariables false

def wrB (k : Int) : Bool := decide (4 ≤ k ∧ k ≤ 7)
def nxB (lm ph : Int) (t : Th) : Bool := decide (0 < (t.lf.length : Int)) && !t.wt && decide (ph ≠ 2) && (!wrB (opA t.lf 0).k || decide (ph ≠ 1) || decide ((t.lg.length : Int) < lm))
def canB (lm ph brk : Int) (ts : List Th) (th : Int) : Bool := decide (0 ≤ th ∧ th < (ts.length : Int)) && decide (brk = 0) && (decide (0 < ((thA ts th).pd.length : Int)) || nxB lm ph (thA ts th))
section
variable {lm ph brk th : Int} {ts : List Th} {t : Th}
theorem can_1 (h : th < 0 ∨ (ts.length : Int) ≤ th) : false = canB lm ph brk ts th := by
  unfold canB; rw [decide_eq_false (by omega : ¬ (0 ≤ th ∧ th < (ts.length : Int)))]; rfl
theorem can_2 (h : brk ≠ 0) : false = canB lm ph brk ts th := by
  unfold canB; rw [decide_eq_false h]; simp
theorem can_3 (h : 0 ≤ th ∧ th < (ts.length : Int)) (hb : brk = 0) (hp : 0 < ((Th.pd (thA ts th)).length : Int)) : true = canB lm ph brk ts th := by
  unfold canB; rw [decide_eq_true h, decide_eq_true hb, decide_eq_true hp]; rfl
theorem can_n (h : 0 ≤ th ∧ th < (ts.length : Int)) (hb : brk = 0) (hp : ((Th.pd (thA ts th)).length : Int) ≤ 0) : nxB lm ph (thA ts th) = canB lm ph brk ts th := by
  unfold canB; rw [decide_eq_true h, decide_eq_true hb, decide_eq_false (by omega)]; simp
theorem nx_1 (h : ((Th.lf t).length : Int) = 0) : false = nxB lm ph t := by unfold nxB; rw [decide_eq_false (by omega)]; simp
theorem nx_2 (h : (Th.wt t) = true) : false = nxB lm ph t := by unfold nxB; rw [h]; simp
theorem nx_3 (h : ph = 2) : false = nxB lm ph t := by unfold nxB; simp [h]
theorem nx_4 (h1 : 0 < ((Th.lf t).length : Int)) (h2 : (Th.wt t) = false) (h3 : ph ≠ 2) (h : ¬ (4 ≤ (OpV.k (opA (Th.lf t) 0)) ∧ (OpV.k (opA (Th.lf t) 0)) ≤ 7)) : true = nxB lm ph t := by
  unfold nxB wrB; rw [decide_eq_true h1, h2, decide_eq_true h3, decide_eq_false h]; rfl
theorem nx_5 (h1 : 0 < ((Th.lf t).length : Int)) (h2 : (Th.wt t) = false) (h3 : ph ≠ 2) (h : ph ≠ 1) : true = nxB lm ph t := by
  unfold nxB; rw [decide_eq_true h1, h2, decide_eq_true h3, decide_eq_true h]; simp
theorem nx_6 (h1 : 0 < ((Th.lf t).length : Int)) (h2 : (Th.wt t) = false) (h3 : ph ≠ 2) (hw : 4 ≤ (OpV.k (opA (Th.lf t) 0)) ∧ (OpV.k (opA (Th.lf t) 0)) ≤ 7) (h : ph = 1) : decide (((Th.lg t).length : Int) < lm) = nxB lm ph t := by
  unfold nxB wrB; rw [decide_eq_true h1, h2, decide_eq_true h3, decide_eq_true hw]; simp [h]
theorem can_is (h : canB lm ph brk ts th = true) : (0 ≤ th ∧ th < (ts.length : Int)) ∧ brk = 0 ∧ (0 < ((Th.pd (thA ts th)).length : Int) ∨ (((Th.pd (thA ts th)).length : Int) = 0 ∧ 0 < ((Th.lf (thA ts th)).length : Int) ∧ (Th.wt (thA ts th)) = false ∧ ph ≠ 2 ∧ ((OpV.k (opA (Th.lf (thA ts th)) 0)) < 4 ∨ 7 < (OpV.k (opA (Th.lf (thA ts th)) 0)) ∨ ph ≠ 1 ∨ ((Th.lg (thA ts th)).length : Int) < lm))) := by
  unfold canB nxB wrB at h
  simp only [Bool.and_eq_true, Bool.or_eq_true, decide_eq_true_eq, Bool.not_eq_eq_eq_not, Bool.not_true, decide_eq_false_iff_not] at h
  obtain ⟨⟨h1, h2⟩, h3⟩ := h
  refine ⟨h1, h2, ?_⟩
  by_cases hp : 0 < ((Th.pd (thA ts th)).length : Int)
  · exact .inl hp
  · rcases h3 with h3 | ⟨⟨⟨h4, h5⟩, h6⟩, h7⟩
    · exact absurd h3 hp
    · refine .inr ⟨by omega, h4, h5, h6, ?_⟩
      rcases h7 with (h7 | h7) | h7 <;> omega
theorem can_nx (h : canB lm ph brk ts th = true) : 0 < ((Th.pd (thA ts th)).length : Int) ∨ (((Th.pd (thA ts th)).length : Int) = 0 ∧ 0 < ((Th.lf (thA ts th)).length : Int) ∧ ph ≠ 2) := by
  obtain ⟨h1, h2, h3⟩ := can_is h
  rcases h3 with h3 | ⟨h3, h4, h5, h6, _⟩
  · exact .inl h3
  · exact .inr ⟨h3, h4, h6⟩
def Bfs (ts : List Th) (b : Int) : Prop := ∀ t ∈ ts, ((t.b0 = 0 ∧ t.b1 = 0) ∨ (0 ≤ t.b0 ∧ t.b0 ≤ t.b1 ∧ t.b1 ≤ b)) ∧ (t.pd.length : Int) ≤ 1
theorem Bfs.at {b : Int} (h : Bfs ts b) (hb : 0 ≤ b) (n : Int) : (((Th.b0 (thA ts n)) = 0 ∧ (Th.b1 (thA ts n)) = 0) ∨ (0 ≤ (Th.b0 (thA ts n)) ∧ (Th.b0 (thA ts n)) ≤ (Th.b1 (thA ts n)) ∧ (Th.b1 (thA ts n)) ≤ b)) ∧ ((Th.pd (thA ts n)).length : Int) ≤ 1 := getD_in (Q := fun t : Th => ((t.b0 = 0 ∧ t.b1 = 0) ∨ (0 ≤ t.b0 ∧ t.b0 ≤ t.b1 ∧ t.b1 ≤ b)) ∧ (t.pd.length : Int) ≤ 1) h (by simp) _
theorem bfs_0 {b : Int} : Bfs (ts.take (Int.toNat 0)) b := fun t h => by simp at h
theorem take_nextT {i : Int} (h0 : 0 ≤ i) (h : i < (ts.length : Int)) : ts.take (Int.toNat (i + 1)) = ts.take (Int.toNat i) ++ [thA ts i] := by
  have h3 : i.toNat < ts.length := by omega
  rw [show (i + 1).toNat = i.toNat + 1 by omega, List.take_add_one, List.getElem?_eq_getElem h3]
  unfold thA
  rw [List.getD_eq_getElem?_getD, List.getElem?_eq_getElem h3]; rfl
theorem bfs_next {b i : Int} (h : Bfs (ts.take (Int.toNat i)) b) (h0 : 0 ≤ i) (h1 : i < (ts.length : Int)) (hq : ((Th.b0 (thA ts i)) = 0 ∧ (Th.b1 (thA ts i)) = 0) ∨ (0 ≤ (Th.b0 (thA ts i)) ∧ (Th.b0 (thA ts i)) ≤ (Th.b1 (thA ts i)) ∧ (Th.b1 (thA ts i)) ≤ b)) (hp : ((Th.pd (thA ts i)).length : Int) ≤ 1) : Bfs (ts.take (Int.toNat (i + 1))) b := fun t ht => by
  rw [take_nextT h0 h1] at ht
  rcases List.mem_append.1 ht with ht | ht
  · exact h t ht
  · rw [List.mem_singleton.1 ht]; exact ⟨hq, hp⟩
theorem bfs_all {b i : Int} (h : Bfs (ts.take (Int.toNat i)) b) (hi : (ts.length : Int) ≤ i) : Bfs ts b := by
  rw [List.take_of_length_le (by omega)] at h; exact h
end
def RGT (W : Int) (xs ys : List Int) (f0 f1 f2 t0 t1 t2 sz lm : Int) (ts : List Th) (ph sc : Int) : Prop :=
  (16 ≤ W ∧ W ≤ 4096 ∧ (xs.length : Int) = W ∧ (ys.length : Int) = W) ∧ (0 ≤ f0 ∧ f0 ≤ 1 ∧ 0 ≤ f1 ∧ f1 ≤ f2 ∧ f2 = W) ∧ (0 ≤ t0 ∧ t0 ≤ 1 ∧ 0 ≤ t1 ∧ t1 ≤ t2 ∧ t2 = W ∧ f0 ≠ t0) ∧ (0 ≤ sz ∧ sz ≤ 4096 ∧ 1 ≤ lm ∧ lm ≤ 64) ∧ (1 ≤ (ts.length : Int) ∧ (ts.length : Int) ≤ 4) ∧ (0 ≤ ph ∧ ph ≤ 2 ∧ 0 ≤ sc ∧ sc ≤ t1) ∧ Bfs ts f1
end Go.Proofs.Ytjchmajamlehmaa.X
namespace Go.Proofs.Ytjchmajamlehmaa.X
open Go Go.RowKit
set_option linter.unusedVariables false

def bx (W : Int) (xs ys : List Int) (f0 f1 f2 t0 t1 t2 sz lm : Int) (ts : List Th) (ph scn fl : Int) (os : List Int) (brk : Int) (st : List Int) (b0 b1 : Int) (lg : List Ent) (lf : List OpV) (pd : List Ent) (wt : Bool) (dn : List AnsV) (k h i j v t f m e v1 : Int) (y w : Bool) : List SV :=
  [.int .i64 W, .sl false 1 (xs.map (SV.int .u64)), .sl false 1 (ys.map (SV.int .u64)), .int .i64 f0, .int .i64 f1, .int .i64 f2, .int .i64 t0, .int .i64 t1, .int .i64 t2, .int .i64 sz, .int .i64 lm, .sl false 8 (ts.map thS), .int .i64 ph, .int .i64 scn, .int .i64 fl, .sl false 1 (os.map (SV.int .i64)), .int .i64 brk,
   .sl false 1 (st.map (SV.int .u64)), .int .i64 b0, .int .i64 b1, .sl false 2 (lg.map entS), .sl false 8 (lf.map opS), .sl false 2 (pd.map entS), .bool wt, .sl false 3 (dn.map ansS),
   .int .i64 k, .int .i64 h, .int .i64 i, .int .i64 j, .int .u64 v, .int .i64 t, .int .i64 f, .int .u64 m, .int .i64 e, .int .u64 v1, .bool y, .bool w]
abbrev bxP (W : Int) (xs ys : List Int) (f0 f1 f2 t0 t1 t2 sz lm : Int) (ts : List Th) (ph scn fl : Int) (os : List Int) (brk : Int) (st : List Int) (b0 b1 : Int) (lg : List Ent) (lf : List OpV) (pd : List Ent) (wt : Bool) (dn : List AnsV) (o : OpV) (e v1 : Int) (y w : Bool) : List SV :=
  bx W xs ys f0 f1 f2 t0 t1 t2 sz lm ts ph scn fl os brk st b0 b1 lg lf pd wt dn o.k o.h o.i o.j o.v o.t o.l o.m e v1 y w
abbrev bxO (W : Int) (xs ys : List Int) (f0 f1 f2 t0 t1 t2 sz lm : Int) (ts : List Th) (ph scn fl : Int) (os : List Int) (brk : Int) (E : Th) (o : OpV) (e v1 : Int) (y w : Bool) : List SV :=
  bxP W xs ys f0 f1 f2 t0 t1 t2 sz lm ts ph scn fl os brk E.st E.b0 E.b1 E.lg E.lf E.pd E.wt E.dn o e v1 y w
abbrev bxT (W : Int) (xs ys : List Int) (f0 f1 f2 t0 t1 t2 sz lm : Int) (ts : List Th) (ph scn fl : Int) (os : List Int) (brk : Int) (E : Th) (k h i j v t f m e v1 : Int) (y w : Bool) : List SV :=
  bx W xs ys f0 f1 f2 t0 t1 t2 sz lm ts ph scn fl os brk E.st E.b0 E.b1 E.lg E.lf E.pd E.wt E.dn k h i j v t f m e v1 y w
def JF (k ph h i W f1 f2 : Int) (xs ys st X Y : List Int) (F : Int) (st1 : List Int) (p q : Int) (pd1 : List Ent) (e v : Int) (w : Bool) : Prop :=
  ((X.length : Int) = W ∧ (Y.length : Int) = W ∧ U64s X ∧ U64s Y) ∧ (f1 ≤ F ∧ F ≤ f2) ∧ (U64s st1 ∧ (st1.length : Int) * 8 ≤ 140737488355000) ∧ ((p = 0 ∧ q = 0) ∨ (0 ≤ p ∧ p ≤ q ∧ q ≤ F)) ∧ (Ents pd1 ∧ (pd1.length : Int) ≤ 1) ∧ ((0 ≤ e ∧ e ≤ 100) ∧ (0 ≤ v ∧ v ≤ 18446744073709551615)) ∧
  (wrB k = true ∨ k = 1 ∨ (X = xs ∧ Y = ys ∧ F = f1 ∧ (pd1.length : Int) = 0)) ∧
  (wrB k = true → w = false ∧ ((e ≠ 0 ∧ (pd1.length : Int) = 0) ∨ (e = 0 ∧ 0 ≤ h ∧ h < (st.length : Int) ∧ (ph = 1 → pd1 = [(ix st h, i)])))) ∧
  (k = 11 → w = true)
theorem wr_no {k : Int} (h : k < 4 ∨ 7 < k) : ¬ (wrB k = true) := by
  unfold wrB; intro g; have := of_decide_eq_true g; omega
theorem wr_yes {k : Int} (h : 4 ≤ k ∧ k ≤ 7) : wrB k = true := decide_eq_true h
section
variable {k ph h i W f1 f2 F p q e v : Int} {xs ys st X Y st1 : List Int} {pd pd1 : List Ent} {w : Bool}
theorem jf_rd (hx : (xs.length : Int) = W := by omega) (hy : (ys.length : Int) = W := by omega) (ux : U64s xs := by assumption) (uy : U64s ys := by assumption) (hf : f1 ≤ f2 := by omega)
    (us : U64s st1 := by first | assumption | exact U64s.take (by assumption) _ | exact U64s.append (by assumption) (U64s.cons (by omega) U64s.nil)) (ls : (st1.length : Int) * 8 ≤ 140737488355000 := by first | omega | (simp; omega))
    (hp : (p = 0 ∧ q = 0) ∨ (0 ≤ p ∧ p ≤ q ∧ q ≤ f1) := by omega) (ep : Ents pd := by assumption) (lp : (pd.length : Int) = 0 := by omega) (he : (0 ≤ e ∧ e ≤ 100) ∧ (0 ≤ v ∧ v ≤ 18446744073709551615) := by omega)
    (hk : wrB k = true → w = false ∧ e ≠ 0 := by first | exact fun g => absurd g (wr_no (by omega)) | exact fun _ => ⟨rfl, by omega⟩)
    (hc : k = 11 → w = true := by first | exact fun _ => rfl | (intro _; omega)) : JF k ph h i W f1 f2 xs ys st xs ys f1 st1 p q pd e v w :=
  ⟨⟨hx, hy, ux, uy⟩, ⟨by omega, hf⟩, ⟨us, ls⟩, hp, ⟨ep, by omega⟩, he, .inr (.inr ⟨rfl, rfl, rfl, lp⟩), fun g => ⟨(hk g).1, .inl ⟨(hk g).2, lp⟩⟩, hc⟩
theorem jf_wr (hk : 4 ≤ k ∧ k ≤ 7 := by omega) (hx : (X.length : Int) = W := by first | omega | assumption) (hy : (Y.length : Int) = W := by first | omega | assumption) (ux : U64s X := by assumption) (uy : U64s Y := by assumption) (hf : f1 ≤ f2 := by omega)
    (us : U64s st := by assumption) (ls : (st.length : Int) * 8 ≤ 140737488355000 := by omega) (hp : (p = 0 ∧ q = 0) ∨ (0 ≤ p ∧ p ≤ q ∧ q ≤ f1) := by omega) (hh : 0 ≤ h ∧ h < (st.length : Int) := by omega) (hi : -9223372036854775808 ≤ i ∧ i ≤ 9223372036854775807 := by omega)
    (ep : Ents pd := by assumption) (lp : (pd.length : Int) = 0 := by omega)
    (hd : (ph ≠ 1 ∧ pd1 = pd) ∨ pd1 = [(ix st h, i)] := by first | assumption | exact .inr rfl | exact .inl ⟨by omega, rfl⟩) : JF k ph h i W f1 f2 xs ys st X Y f1 st p q pd1 0 0 false := by
  have hu := us.ix h
  have h1 : Ents pd1 ∧ (pd1.length : Int) ≤ 1 := by
    rcases hd with ⟨_, rfl⟩ | rfl
    · exact ⟨ep, by omega⟩
    · exact ⟨Ents.one (by omega) (by omega), by simp⟩
  refine ⟨⟨hx, hy, ux, uy⟩, ⟨by omega, hf⟩, ⟨us, ls⟩, hp, h1, by omega, .inl (wr_yes hk), fun _ => ⟨rfl, .inr ⟨rfl, hh.1, hh.2, fun g => ?_⟩⟩, fun _ => by omega⟩
  rcases hd with ⟨h2, _⟩ | h2
  · exact absurd g h2
  · exact h2
theorem jf_al (hk : k = 1 := by omega) (hx : (X.length : Int) = W := by first | omega | assumption) (hy : (Y.length : Int) = W := by first | omega | assumption) (ux : U64s X := by assumption) (uy : U64s Y := by assumption) (hf : f1 ≤ F ∧ F ≤ f2 := by omega)
    (us : U64s st1 := by first | assumption | exact U64s.append (by assumption) (U64s.cons (by omega) U64s.nil)) (ls : (st1.length : Int) * 8 ≤ 140737488355000 := by first | omega | (simp; omega)) (hp : (p = 0 ∧ q = 0) ∨ (0 ≤ p ∧ p ≤ q ∧ q ≤ F) := by omega)
    (ep : Ents pd := by assumption) (lp : (pd.length : Int) = 0 := by omega) (he : (0 ≤ e ∧ e ≤ 100) ∧ (0 ≤ v ∧ v ≤ 18446744073709551615) := by omega) : JF k ph h i W f1 f2 xs ys st X Y F st1 p q pd e v w :=
  ⟨⟨hx, hy, ux, uy⟩, hf, ⟨us, ls⟩, hp, ⟨ep, by omega⟩, he, .inr (.inl hk), fun g => absurd g (wr_no (by omega)), fun _ => by omega⟩
end
section
variable {ts : List Th} {th : Int} {T E : Th} {a : AnsV} {st1 : List Int} {p q : Int} {pd1 : List Ent} {w : Bool}
theorem th_work (h : ThOk E) (us : U64s st1) (ls : (st1.length : Int) * 8 ≤ 140737488355000) (hp : -9223372036854775808 ≤ p ∧ p ≤ 9223372036854775807) (hq : -9223372036854775808 ≤ q ∧ q ≤ 9223372036854775807) (ep : Ents pd1) (lp : (pd1.length : Int) ≤ 1) : ThOk (Th.mk st1 p q (Th.lg E) (Th.lf E) pd1 w (Th.dn E)) := by
  obtain ⟨g1, g2, g3, g4, g5, g6, g7, g8, g9, g10, g11, g12⟩ := h
  exact ⟨us, ls, hp, hq, g5, g6, g7, g8, ep, by simp only []; omega, g11, g12⟩
theorem can_w {lm ph brk : Int} (h : 0 ≤ th ∧ th < (ts.length : Int)) (hb : brk = 0) (hp : ((Th.pd (thA ts th)).length : Int) ≤ 0) (hw : (Th.wt (thA ts th)) = true) : canB lm ph brk ts th = false := ((nx_2 hw).trans (can_n h hb hp)).symm
theorem th_pend (h : ThOk E) (hg : ((Th.lg E).length : Int) * 16 ≤ 140737488351232) : ThOk (Th.mk (Th.st E) (Th.b0 E) (Th.b1 E) (Th.lg E ++ [(eO (Th.pd E) 0, eF (Th.pd E) 0)]) (Th.lf E) [] (Th.wt E) (Th.dn E)) := by
  obtain ⟨g1, g2, g3, g4, g5, g6, g7, g8, g9, g10, g11, g12⟩ := h
  have g := g9.at 0
  exact ⟨g1, g2, g3, g4, g5.app (Ents.one g.1 g.2), by simp; omega, g7, g8, (fun x hx => nomatch hx), by simp, g11, g12⟩
theorem th_done {e v : Int} {y : Bool} (h : ThOk E) (us : U64s st1) (ls : (st1.length : Int) * 8 ≤ 140737488355000) (hp : -9223372036854775808 ≤ p ∧ p ≤ 9223372036854775807) (hq : -9223372036854775808 ≤ q ∧ q ≤ 9223372036854775807) (ep : Ents pd1) (lp : (pd1.length : Int) ≤ 1) (he : -9223372036854775808 ≤ e ∧ e ≤ 9223372036854775807) (hv : 0 ≤ v ∧ v ≤ 18446744073709551615) (hg : ((Th.dn E).length : Int) * 24 ≤ 140737488351232) :
    ThOk (Th.mk st1 p q (Th.lg E) ((Th.lf E).drop 1) pd1 w ((Th.dn E) ++ [(AnsV.mk e v y)])) := th_next1 (th_work h us ls hp hq ep lp) he hv hg
theorem ths_sh : Ths [(Th.mk [] 0 0 [] [(OpV.mk 11 0 0 0 0 0 0 0)] [] false [])] := fun t h => by
  rw [List.mem_singleton.1 h]
  unfold ThOk; simp [U64s, Ents, Ops, Anss, OpOkV]
theorem bfs_sh : Bfs [(Th.mk [] 0 0 [] [(OpV.mk 11 0 0 0 0 0 0 0)] [] false [])] 0 := fun t h => by
  rw [List.mem_singleton.1 h]
  exact ⟨.inl ⟨rfl, rfl⟩, by decide⟩
theorem bfs_set {f1 F : Int} {n : Nat} (h : Bfs ts f1) (hf : f1 ≤ F) (ht : (T.b0 = 0 ∧ T.b1 = 0) ∨ (0 ≤ T.b0 ∧ T.b0 ≤ T.b1 ∧ T.b1 ≤ F)) (hp : (T.pd.length : Int) ≤ 1) : Bfs (List.set ts n T) F := fun y hy => by
  rcases List.mem_or_eq_of_mem_set hy with h1 | rfl
  · have := h y h1
    exact ⟨by omega, this.2⟩
  · exact ⟨ht, hp⟩
theorem en_pd {e hh : Int} {st : List Int} {ph i : Int} (h : (e ≠ 0 ∧ (pd1.length : Int) = 0) ∨ (e = 0 ∧ 0 ≤ hh ∧ hh < (st.length : Int) ∧ (ph = 1 → pd1 = [(ix st hh, i)]))) (hp : ph = 1) : (e ≠ 0 ∧ (pd1.length : Int) = 0) ∨ (e = 0 ∧ 0 ≤ hh ∧ hh < (st.length : Int) ∧ (pd1.length : Int) = 1 ∧ (eO pd1 0) = ix st hh ∧ (eF pd1 0) = i) := by
  rcases h with h | ⟨h1, h2, h3, h4⟩
  · exact .inl h
  · have := h4 hp
    subst this
    exact .inr ⟨h1, h2, h3, rfl, rfl, rfl⟩
theorem eO_last {l : List Ent} {a i : Int} : (eO (l ++ [(a, i)]) (((l ++ [(a, i)]).length : Int) - 1)) = a := by
  unfold eO; rw [show (((l ++ [(a, i)]).length : Int) - 1).toNat = l.length by simp, List.getD_eq_getElem?_getD]; simp
theorem eF_last {l : List Ent} {a i : Int} : (eF (l ++ [(a, i)]) (((l ++ [(a, i)]).length : Int) - 1)) = i := by
  unfold eF; rw [show (((l ++ [(a, i)]).length : Int) - 1).toNat = l.length by simp, List.getD_eq_getElem?_getD]; simp
theorem rgt_do {W f0 f1 f2 t0 t1 t2 sz lm ph sc F : Int} {xs ys X Y : List Int} {n : Nat} (h : RGT W xs ys f0 f1 f2 t0 t1 t2 sz lm ts ph sc) (hx : (X.length : Int) = W) (hy : (Y.length : Int) = W) (hf : f1 ≤ F ∧ F ≤ f2) (ht : (T.b0 = 0 ∧ T.b1 = 0) ∨ (0 ≤ T.b0 ∧ T.b0 ≤ T.b1 ∧ T.b1 ≤ F)) (hp : (T.pd.length : Int) ≤ 1) :
    RGT W X Y f0 F f2 t0 t1 t2 sz lm (List.set ts n T) ph sc := by
  obtain ⟨g1, g2, g3, g4, g5, g6, g7⟩ := h
  exact ⟨⟨g1.1, g1.2.1, hx, hy⟩, by omega, g3, g4, by rw [len_set]; exact g5, g6, bfs_set g7 hf.1 ht hp⟩
abbrev EqT (l u : List Th) : Prop := l = u
theorem th_l1 : (([T] : List Th).length : Int) * 144 ≤ 140737488355000 := by simp
theorem ths_one (h : ThOk T) : Ths [T] := fun y hy => by rw [List.mem_singleton.1 hy]; exact h
theorem eqt_one {o : Int} (h0 : 0 ≤ th) (h1 : 0 ≤ o) (h : o ≠ th) : EqT [Th.mk (thA (List.set ts (Int.toNat th) T) o).st (thA (List.set ts (Int.toNat th) T) o).b0 (thA (List.set ts (Int.toNat th) T) o).b1 (thA (List.set ts (Int.toNat th) T) o).lg (thA (List.set ts (Int.toNat th) T) o).lf (thA (List.set ts (Int.toNat th) T) o).pd (thA (List.set ts (Int.toNat th) T) o).wt (thA (List.set ts (Int.toNat th) T) o).dn] [Th.mk (thA ts o).st (thA ts o).b0 (thA ts o).b1 (thA ts o).lg (thA ts o).lf (thA ts o).pd (thA ts o).wt (thA ts o).dn] := by
  rw [th_other h0 h1 h]
theorem ans_set (h0 : 0 ≤ th) (h1 : th < (ts.length : Int)) : List.map thS (List.set (List.set ts (Int.toNat th) T) (Int.toNat th) (tN (thA (List.set ts (Int.toNat th) T) th) ((Th.lf (thA (List.set ts (Int.toNat th) T) th)).drop 1) (Th.dn (thA (List.set ts (Int.toNat th) T) th) ++ [a]))) = List.map thS (List.set ts (Int.toNat th) (tN T (T.lf.drop 1) (T.dn ++ [a]))) := by
  rw [th_set h0 h1, List.set_set]
end
end Go.Proofs.Ytjchmajamlehmaa.X
