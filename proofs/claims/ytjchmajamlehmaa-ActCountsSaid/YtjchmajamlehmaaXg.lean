/- The operations, part 5: the rest; the runner over a region's operations. -/
import Derived.Test.YtjchmajamlehmaaXf
namespace Go.Proofs.Ytjchmajamlehmaa.X
open Go Go.RowKit

section
variable {P : Program} {T : Tab} {N : Nat} {fr : Fr} {mem : Mem} {nx : Nat} {o : Oper}

def xbinOp (T : Tab) (fr : Fr) (mem : Mem) (nx : Nat) (op : BinOp) (t : Nat) (x y : Operand) (q : SV) : R :=
  match xbin T op t (evo fr x) (evo fr y) q with
  | some (s, k) => some (s, mem, nx, k)
  | none => none
theorem ok_binOp (hT : TabOk P T) {op : BinOp} {t yt : Nat} {x y : Operand} (ho : o.op = .binOp op t x y yt) {q sv : SV} {mem' : Mem} {nx' : Nat} {k : Prop} (h : xbinOp T fr mem nx op t x y q = some (sv, mem', nx', k)) (hk : k) : OpOk P N fr mem nx o sv mem' nx' := by
  unfold xbinOp at h
  split at h
  · rename_i s k' hs
    simp only [Option.some.injEq, Prod.mk.injEq] at h
    obtain ⟨rfl, rfl, rfl, rfl⟩ := h
    refine OpOk.pure fun Γ ρ w a hi hf => ?_
    obtain ⟨v, h1, h2, h3⟩ := xbin_sound hT (x := x) (y := y) hs hk (evo_den hf x).1 (evo_den hf y).1 w
    exact ⟨v, by simp only [execOp, ho]; rw [Sem.run_bind, h1]; rfl, h2, h3 nx⟩
  · cases h

def xnot (fr : Fr) (mem : Mem) (nx : Nat) (x : Operand) : R :=
  match evo fr x with
  | .bool b => some (.bool (!b), mem, nx, True)
  | _ => none
theorem ok_not {t : Nat} {x : Operand} (ho : o.op = .unOp .not t x) {sv : SV} {mem' : Mem} {nx' : Nat} {k : Prop} (h : xnot fr mem nx x = some (sv, mem', nx', k)) : OpOk P N fr mem nx o sv mem' nx' := by
  unfold xnot at h
  split at h
  · rename_i b hx
    simp only [Option.some.injEq, Prod.mk.injEq] at h
    obtain ⟨rfl, rfl, rfl, rfl⟩ := h
    refine OpOk.pure fun Γ ρ w a hi hf => ?_
    have h1 := (evo_den hf x).1
    rw [hx] at h1; simp only [Den] at h1
    exact ⟨.bool (!b), by simp [execOp, ho, h1, Op.unary], by simp only [Den], rfl⟩
  · cases h

def xconv (T : Tab) (fr : Fr) (mem : Mem) (nx : Nat) (src dst : Nat) (x : Operand) (q : SV) : R :=
  match fnd T src, fnd T dst, evo fr x, q with
  | some _, some ti, .int _ n, .int _ r => match ti.d with
    | .int k => some (.int k r, mem, nx, k.wrap n = r)
    | _ => none
  | _, _, _, _ => none
theorem ok_conv (hT : TabOk P T) {src dst : Nat} {x : Operand} (ho : o.op = .convert src dst x) {q sv : SV} {mem' : Mem} {nx' : Nat} {k : Prop} (h : xconv T fr mem nx src dst x q = some (sv, mem', nx', k)) (hk : k) : OpOk P N fr mem nx o sv mem' nx' := by
  unfold xconv at h
  split at h
  · rename_i si ti k0 n k1 r hs hd hx
    split at h
    · rename_i kk hdd
      simp only [Option.some.injEq, Prod.mk.injEq] at h
      obtain ⟨rfl, rfl, rfl, rfl⟩ := h
      have hdesc := (hT dst ti hd).desc
      rw [hdd] at hdesc; simp only [DescOk] at hdesc
      have hsund := (hT src si hs).und
      refine OpOk.pure fun Γ ρ w a hi hf => ?_
      have h1 := (evo_den hf x).1
      rw [hx] at h1; simp only [Den] at h1
      refine ⟨.int kk r, ?_, by simp only [Den], rfl⟩
      cases hq : P.underlying src with
      | none => simp [hq] at hsund
      | some sd => simp [execOp, ho, h1, convert, run_underlying hq, run_underlying hdesc, Conv.intToInt, hk]
    · cases h
  · cases h

def xextract (fr : Fr) (mem : Mem) (nx : Nat) (x : Operand) (i : Nat) : R :=
  match evo fr x with
  | .tup l => match l[i]? with
    | some s => some (s, mem, nx, True)
    | none => none
  | _ => none
theorem ok_extract {x : Operand} {i : Nat} (ho : o.op = .extract x i) {sv : SV} {mem' : Mem} {nx' : Nat} {k : Prop} (h : xextract fr mem nx x i = some (sv, mem', nx', k)) : OpOk P N fr mem nx o sv mem' nx' := by
  unfold xextract at h
  split at h
  · rename_i l hx
    split at h
    · rename_i s hs
      simp only [Option.some.injEq, Prod.mk.injEq] at h
      obtain ⟨rfl, rfl, rfl, rfl⟩ := h
      refine OpOk.pure fun Γ ρ w a hi hf => ?_
      obtain ⟨h1, h1'⟩ := evo_den hf x
      rw [hx] at h1 h1'; simp only [Den] at h1
      obtain ⟨vs, hv, h1⟩ := h1
      obtain ⟨v, h2, h3⟩ := h1.get i hs
      have h2' : vs[i]? = some v := by simpa using h2
      exact ⟨v, by simp [execOp, ho, hv, Instr.extract, h2'], h3, bdL_get i h1' hs⟩
    · cases h
  · cases h

def xfield (T : Tab) (fr : Fr) (mem : Mem) (nx : Nat) (s : Nat) (x : Operand) (f : Nat) : R :=
  match fnd T s, evo fr x with
  | some ti, .agg l => match ti.d with
    | .struct fs => match fs[f]? with
      | some (off, ft) => match fnd T ft with
        | some fi => match fi.agg with
          | true => match Nat.ble (off + fi.cells) l.length with
            | true => some (.agg ((l.drop off).take fi.cells), mem, nx, True)
            | false => none
          | false => match l[off]? with
            | some s => some (s, mem, nx, True)
            | none => none
        | none => none
      | none => none
    | _ => none
  | _, _ => none
theorem ok_field (hT : TabOk P T) {s f : Nat} {x : Operand} (ho : o.op = .field s x f) {sv : SV} {mem' : Mem} {nx' : Nat} {k : Prop} (h : xfield T fr mem nx s x f = some (sv, mem', nx', k)) : OpOk P N fr mem nx o sv mem' nx' := by
  unfold xfield at h
  split at h
  · rename_i ti l hti hx
    split at h
    · rename_i fs hd
      have hdesc := (hT s ti hti).desc
      rw [hd] at hdesc; simp only [DescOk] at hdesc
      cases hu : P.underlying s with
      | none => simp [hu] at hdesc
      | some d =>
        rw [hu] at hdesc
        cases d with
        | struct fa =>
          simp only [Option.bind_some, structFs, Option.some.injEq] at hdesc
          subst hdesc
          split at h
          · rename_i off ft hf
            rw [List.getElem?_map] at hf
            cases hq : fa.toList[f]? with
            | none => simp [hq] at hf
            | some fd =>
              simp [hq] at hf
              obtain ⟨rfl, rfl⟩ := hf
              have hq' : fa[f]? = some fd := by simpa using hq
              split at h
              · rename_i fi hfi
                have ht := hT _ fi hfi
                split at h
                · rename_i ha
                  split at h
                  · rename_i hle
                    simp only [Option.some.injEq, Prod.mk.injEq] at h
                    obtain ⟨rfl, rfl, rfl, rfl⟩ := h
                    refine OpOk.pure fun Γ ρ w a hi hff => ?_
                    obtain ⟨h1, h1'⟩ := evo_den hff x
                    rw [hx] at h1 h1'; simp only [Den] at h1
                    obtain ⟨vs, hv, h1⟩ := h1
                    refine ⟨.agg (vs.extract fd.offset (fd.offset + fi.cells)), ?_, ?_, bdL_take _ (bdL_drop _ h1')⟩
                    · simp [execOp, ho, hv, Instr.field, run_underlying hu, hq', asAgg, part, ht.isAgg, ha, ht.sizeOf]
                    · simp only [Den]
                      refine ⟨_, rfl, ?_⟩
                      have := (h1.drop fd.offset).take fi.cells
                      simpa using this
                  · cases h
                · rename_i ha
                  split at h
                  · rename_i s1 hs1
                    simp only [Option.some.injEq, Prod.mk.injEq] at h
                    obtain ⟨rfl, rfl, rfl, rfl⟩ := h
                    refine OpOk.pure fun Γ ρ w a hi hff => ?_
                    obtain ⟨h1, h1'⟩ := evo_den hff x
                    rw [hx] at h1 h1'; simp only [Den] at h1
                    obtain ⟨vs, hv, h1⟩ := h1
                    obtain ⟨v, h2, h3⟩ := h1.get _ hs1
                    have h2' : vs[fd.offset]? = some v := by simpa using h2
                    exact ⟨v, by simp [execOp, ho, hv, Instr.field, run_underlying hu, hq', asAgg, part, ht.isAgg, ha, h2'], h3, bdL_get _ h1' hs1⟩
                  · cases h
              · cases h
          · cases h
        | _ => simp [structFs] at hdesc
    · cases h
  · cases h

theorem mapDen {Γ : Gh} {ρ : Env} {a : Act} (hf : FrDen Γ ρ nx N fr a) : ∀ (l : List Operand), DenL Γ ρ (l.map (evo fr)) (l.map a.eval) ∧ bdL nx (l.map (evo fr)) = true
  | [] => by simp [DenL, bdL]
  | x :: l => by
    obtain ⟨h1, h2⟩ := mapDen hf l
    simp only [List.map_cons, DenL, bdL, Bool.and_eq_true]
    exact ⟨⟨_, _, rfl, (evo_den hf x).1, h1⟩, (evo_den hf x).2, h2⟩

def xmakeFunc (fr : Fr) (mem : Mem) (nx : Nat) (f : Nat) (first cap : Array Operand) : R :=
  some (.fn f (first.toList.map (evo fr)) (cap.toList.map (evo fr)), mem, nx, True)
theorem ok_makeFunc {f : Nat} {first cap : Array Operand} (ho : o.op = .makeFunc (.func f) first cap) {sv : SV} {mem' : Mem} {nx' : Nat} {k : Prop} (h : xmakeFunc fr mem nx f first cap = some (sv, mem', nx', k)) : OpOk P N fr mem nx o sv mem' nx' := by
  unfold xmakeFunc at h
  simp only [Option.some.injEq, Prod.mk.injEq] at h
  obtain ⟨rfl, rfl, rfl, rfl⟩ := h
  refine OpOk.pure fun Γ ρ w a hi hf => ?_
  obtain ⟨h1, h2⟩ := mapDen hf first.toList
  obtain ⟨h3, h4⟩ := mapDen hf cap.toList
  refine ⟨.func (.func f) (first.map a.eval) (cap.map a.eval), by simp [execOp, ho, Instr.makeFunc], ?_, by simp [SV.bd, h2, h4]⟩
  simp only [Den]
  exact ⟨_, _, rfl, by simpa using h1, by simpa using h3⟩

def xlen (T : Tab) (fr : Fr) (mem : Mem) (nx : Nat) (t : Nat) (x : Operand) (q : SV) : R :=
  match fnd T t, q with
  | some ti, .int _ r => match ti.d with
    | .slice _ => match evo fr x with
      | .nils => some (.int .i64 r, mem, nx, (0 : Int) = r)
      | .sl _ _ xs => some (.int .i64 r, mem, nx, (xs.length : Int) = r)
      | .own n => match fnd mem n with
        | some (.row _ _ xs) => some (.int .i64 r, mem, nx, (xs.length : Int) = r)
        | _ => none
      | _ => none
    | .arr n _ => some (.int .i64 r, mem, nx, (n : Int) = r)
    | _ => none
  | _, _ => none
theorem run_len {a : Act} {x : Operand} {ats : Array TypeId} (w : World) (r : Int) (h : (Builtin.len_ ats o.type #[a.eval x]).run P w = .ok (.int .i64 r) w) (ho : o.op = .call { callee := .builtin .len, args := #[x], argTypes := ats }) :
    (execOp a.eval o).run P w = .ok (.value (.int .i64 r)) w := by
  simp [execOp, ho, resolve, invoke, builtin, h]
theorem ok_len (hT : TabOk P T) {t : Nat} {x : Operand} (ho : o.op = .call { callee := .builtin .len, args := #[x], argTypes := #[t] }) {q sv : SV} {mem' : Mem} {nx' : Nat} {k : Prop} (h : xlen T fr mem nx t x q = some (sv, mem', nx', k)) (hk : k) : OpOk P N fr mem nx o sv mem' nx' := by
  unfold xlen at h
  split at h
  · rename_i ti k0 r hti
    have hdesc := (hT t ti hti).desc
    split at h
    · rename_i e hd
      rw [hd] at hdesc; simp only [DescOk] at hdesc
      split at h
      · rename_i hx
        simp only [Option.some.injEq, Prod.mk.injEq] at h
        obtain ⟨rfl, rfl, rfl, rfl⟩ := h
        refine OpOk.pure fun Γ ρ w a hi hf => ⟨.int .i64 r, run_len w r ?_ ho, by simp only [Den], rfl⟩
        have h1 := (evo_den hf x).1
        rw [hx] at h1; simp only [Den] at h1
        simp [Builtin.len_, run_underlying hdesc, h1, goInt, ← hk]
      · rename_i b z xs hx
        simp only [Option.some.injEq, Prod.mk.injEq] at h
        obtain ⟨rfl, rfl, rfl, rfl⟩ := h
        refine OpOk.pure fun Γ ρ w a hi hf => ⟨.int .i64 r, run_len w r ?_ ho, by simp only [Den], rfl⟩
        have h1 := (evo_den hf x).1
        rw [hx] at h1; simp only [Den] at h1
        rcases h1 with ⟨_, h1, h2⟩ | ⟨_, _, _, _, h1, _⟩
        · subst h2; simp [Builtin.len_, run_underlying hdesc, h1, goInt, ← hk]
        · simp [Builtin.len_, run_underlying hdesc, h1, goInt, ← hk]
      · rename_i n hx
        split at h
        · rename_i z E xs hm
          simp only [Option.some.injEq, Prod.mk.injEq] at h
          obtain ⟨rfl, rfl, rfl, rfl⟩ := h
          refine OpOk.pure fun Γ ρ w a hi hf => ⟨.int .i64 r, run_len w r ?_ ho, by simp only [Den], rfl⟩
          have h1 := (evo_den hf x).1
          rw [hx] at h1; simp only [Den] at h1
          obtain ⟨⟨v, hv1, g⟩, _, _⟩ := hi.priv n _ hm
          rw [h1.1] at hv1; cases hv1
          rcases g with ⟨g, g', _⟩ | ⟨b, arr, cap, g1, g2, _⟩
          · subst g'; simp [Builtin.len_, run_underlying hdesc, g, goInt, ← hk]
          · simp [Builtin.len_, run_underlying hdesc, g2, goInt, ← hk]
        · cases h
      · cases h
    · rename_i n e hd
      rw [hd] at hdesc; simp only [DescOk] at hdesc
      simp only [Option.some.injEq, Prod.mk.injEq] at h
      obtain ⟨rfl, rfl, rfl, rfl⟩ := h
      refine OpOk.pure fun Γ ρ w a hi hf => ⟨.int .i64 r, run_len w r ?_ ho, by simp only [Den], rfl⟩
      simp [Builtin.len_, run_underlying hdesc, goInt, ← hk]
    · cases h
  · cases h

def xmm (mx : Bool) (fr : Fr) (mem : Mem) (nx : Nat) (x y : Operand) (q : SV) : R :=
  match evo fr x, evo fr y, q with
  | .int k a, .int _ b, .int _ r => match mx with
    | true => some (.int k r, mem, nx, (if b > a then b else a) = r)
    | false => some (.int k r, mem, nx, (if b < a then b else a) = r)
  | _, _, _ => none
theorem ok_max {x y : Operand} {ats : Array TypeId} (ho : o.op = .call { callee := .builtin .max, args := #[x, y], argTypes := ats }) {q sv : SV} {mem' : Mem} {nx' : Nat} {k : Prop} (h : xmm true fr mem nx x y q = some (sv, mem', nx', k)) (hk : k) : OpOk P N fr mem nx o sv mem' nx' := by
  unfold xmm at h
  split at h
  · rename_i k1 a1 k2 b1 k3 r hx hy
    simp only [Option.some.injEq, Prod.mk.injEq] at h
    obtain ⟨rfl, rfl, rfl, rfl⟩ := h
    refine OpOk.pure fun Γ ρ w a hi hf => ⟨.int k1 r, ?_, by simp only [Den], rfl⟩
    have h1 := (evo_den hf x).1; have h2 := (evo_den hf y).1
    rw [hx] at h1; rw [hy] at h2; simp only [Den] at h1 h2
    simp [execOp, ho, resolve, invoke, builtin, h1, h2, run_max_int2, hk]
  · cases h
theorem ok_min {x y : Operand} {ats : Array TypeId} (ho : o.op = .call { callee := .builtin .min, args := #[x, y], argTypes := ats }) {q sv : SV} {mem' : Mem} {nx' : Nat} {k : Prop} (h : xmm false fr mem nx x y q = some (sv, mem', nx', k)) (hk : k) : OpOk P N fr mem nx o sv mem' nx' := by
  unfold xmm at h
  split at h
  · rename_i k1 a1 k2 b1 k3 r hx hy
    simp only [Option.some.injEq, Prod.mk.injEq] at h
    obtain ⟨rfl, rfl, rfl, rfl⟩ := h
    refine OpOk.pure fun Γ ρ w a hi hf => ⟨.int k1 r, ?_, by simp only [Den], rfl⟩
    have h1 := (evo_den hf x).1; have h2 := (evo_den hf y).1
    rw [hx] at h1; rw [hy] at h2; simp only [Den] at h1 h2
    simp [execOp, ho, resolve, invoke, builtin, h1, h2, run_min_int2, hk]
  · cases h

def fillS (place : Nat → Option (Nat × Nat)) (fr : Fr) : List SV → List (Nat × Operand) → Option (List SV)
  | l, [] => some l
  | l, (i, x) :: rest => match place i, cellsOf (evo fr x) with
    | some (off, size), some n => match Nat.beq n.length size, Nat.ble (off + n.length) l.length with
      | true, true => fillS place fr (splice l off n) rest
      | _, _ => none
    | _, _ => none

theorem foldl_splice (off : Nat) (l : List Value) (cs : Array Value) (h : off + l.length ≤ cs.size) :
    ((l.toArray.zipIdx).foldl (fun cs (x : Value × Nat) => cs.setIfInBounds (off + x.2) x.1) cs).toList = cs.toList.take off ++ l ++ cs.toList.drop (off + l.length) := by
  have e : (l.toArray.zipIdx).foldl (fun cs (x : Value × Nat) => cs.setIfInBounds (off + x.2) x.1) cs = (l.zipIdx 0).foldl (fun cs (x : Value × Nat) => cs.setIfInBounds (off + x.2) x.1) cs := by
    rw [← Array.foldl_toList, Array.toList_zipIdx]
  rw [e]
  obtain ⟨h1, h2⟩ := Great.foldl_set off l 0 cs
  apply List.ext_getElem?
  intro k
  have h3 := h2 k
  rw [← Array.getElem?_toList] at h3
  rw [h3]
  simp only [Nat.add_zero]
  by_cases hk : off ≤ k ∧ k < off + l.length ∧ k < cs.size
  · rw [if_pos hk, List.append_assoc, List.getElem?_append_right (by simp; omega), List.getElem?_append_left (by simp; omega)]
    congr 1
    simp; omega
  · rw [if_neg hk]
    by_cases hk' : k < off
    · rw [List.append_assoc, List.getElem?_append_left (by simp; omega), List.getElem?_take_of_lt hk']
      simp
    · rw [List.getElem?_append_right (by simp; omega), List.getElem?_drop]
      simp only [List.length_append, List.length_take, Array.length_toList]
      rw [← Array.getElem?_toList]
      congr 1
      have : min off cs.size = off := by omega
      by_cases hb : k < off + l.length
      · omega
      · omega

theorem fill_sound (placeV : Nat → Option (Nat × Nat)) {Γ : Gh} {ρ : Env} {a : Act} (hf : FrDen Γ ρ nx N fr a) : ∀ (parts : List (Nat × Operand)) (l m : List SV) (cs : Array Value), fillS placeV fr l parts = some m → DenL Γ ρ l cs.toList → bdL nx l = true →
    ∃ r, Instr.fill placeV cs (parts.map fun (i, x) => (i, a.eval x)) = some r ∧ DenL Γ ρ m r.toList ∧ bdL nx m = true
  | [], l, m, cs, h, hd, hb => by
    simp only [fillS, Option.some.injEq] at h
    subst h
    exact ⟨cs, rfl, hd, hb⟩
  | (i, x) :: rest, l, m, cs, h, hd, hb => by
    simp only [fillS] at h
    split at h
    · rename_i off size n hp hc
      split at h
      · rename_i h1 h2
        obtain ⟨g1, g2⟩ := evo_den hf x
        obtain ⟨g3, g4, g5⟩ := cellsOf_den hc g1 g2
        have hn := g3.length
        have hl := hd.length
        simp only [Array.length_toList] at hn hl
        have h1' : n.length = size := Nat.eq_of_beq_eq_true h1
        have h2' : off + n.length ≤ l.length := Nat.le_of_ble_eq_true h2
        obtain ⟨r, hr, hrest⟩ := fill_sound placeV hf rest (splice l off n) m ((a.eval x).cells.zipIdx.foldl (fun cs (c, j) => cs.setIfInBounds (off + j) c) cs) h (by
          have := foldl_splice off (a.eval x).cells.toList cs (by simp; omega)
          rw [Array.toArray_toList] at this
          rw [this]
          have := spliceDen off hd g3
          simpa using this) (spliceBd off hb g5)
        refine ⟨r, ?_, hrest⟩
        simp only [List.map_cons, Instr.fill, hp]
        rw [if_neg (by simp; omega)]
        exact hr
      · cases h
    · cases h

def structPlaces (T : Tab) : List (Nat × Nat) → Option (List (Nat × Nat))
  | [] => some []
  | (off, ft) :: fs => match fnd T ft, structPlaces T fs with
    | some fi, some r => some ((off, fi.cells) :: r)
    | _, _ => none

def xbuild (T : Tab) (fr : Fr) (mem : Mem) (nx : Nat) (t : Nat) (parts : Array (Nat × Operand)) : R :=
  match fnd T t with
  | some ti => match ti.d with
    | .struct fs => match structPlaces T fs with
      | some pl => match fillS (fun i => pl[i]?) fr ti.zero parts.toList with
        | some l => some (.agg l, mem, nx, True)
        | none => none
      | none => none
    | .arr _ e => match fnd T e with
      | some ei => match fillS (fun i => some (i * ei.cells, ei.cells)) fr ti.zero parts.toList with
        | some l => some (.agg l, mem, nx, True)
        | none => none
      | none => none
    | _ => none
  | none => none

theorem run_places (hT : TabOk P T) {w : World} : ∀ (fa : List Field) (pl : List (Nat × Nat)), structPlaces T (fa.map fun f => (f.offset, f.type)) = some pl →
    (fa.mapM fun f => (do pure (f.offset, ← sizeOf f.type) : Sem (Nat × Nat))).run P w = .ok pl w
  | [], pl, h => by simp [structPlaces] at h; subst h; simp
  | f :: fa, pl, h => by
    simp only [List.map_cons, structPlaces] at h
    split at h
    · rename_i fi r hfi hr
      simp only [Option.some.injEq] at h
      subst h
      have ih := run_places hT (w := w) fa r hr
      simp only [List.mapM_cons, Sem.run_bind, (hT _ fi hfi).sizeOf, Result.andThen_ok, Sem.run_pure]
      rw [ih]
      rfl
    · cases h

theorem ok_build (hT : TabOk P T) {t : Nat} {parts : Array (Nat × Operand)} (ho : o.op = .build t parts) {sv : SV} {mem' : Mem} {nx' : Nat} {k : Prop} (h : xbuild T fr mem nx t parts = some (sv, mem', nx', k)) : OpOk P N fr mem nx o sv mem' nx' := by
  unfold xbuild at h
  split at h
  · rename_i ti hti
    have ht := hT t ti hti
    have hdesc := ht.desc
    obtain ⟨zv, hz1, hz2⟩ := ht.zeroValue
    split at h
    · rename_i fs hd
      rw [hd] at hdesc; simp only [DescOk] at hdesc
      cases hu : P.underlying t with
      | none => simp [hu] at hdesc
      | some d =>
        rw [hu] at hdesc
        cases d with
        | struct fa =>
          simp only [Option.bind_some, structFs, Option.some.injEq] at hdesc
          subst hdesc
          split at h
          · rename_i pl hpl
            split at h
            · rename_i l hl
              simp only [Option.some.injEq, Prod.mk.injEq] at h
              obtain ⟨rfl, rfl, rfl, rfl⟩ := h
              refine OpOk.pure fun Γ ρ w a hi hf => ?_
              obtain ⟨h3, _, h5, _⟩ := consts_den (Γ := Γ) (ρ := ρ) (n := nx) hz2
              obtain ⟨r, hr1, hr2, hr3⟩ := fill_sound (fun i => pl[i]?) hf parts.toList _ l zv.cells hl h3 h5
              refine ⟨.agg r, ?_, by simp only [Den]; exact ⟨r, rfl, hr2⟩, hr3⟩
              have hpl' : (fa.mapM fun f => (do pure (f.offset, ← sizeOf f.type) : Sem (Nat × Nat))).run P w = .ok pl.toArray w := by
                rw [Array.mapM_eq_mapM_toList, Sem.run_map, run_places hT fa.toList pl hpl]
                rfl
              have hpl'' : (Array.mapM (fun f : Field => Prod.mk f.offset <$> sizeOf f.type) fa).run P w = .ok pl.toArray w := by
                simpa [bind_pure_comp] using hpl'
              have hr1' : Instr.fill (fun i => pl[i]?) zv.cells (parts.toList.map fun x => (x.1, a.eval x.2)) = some r := hr1
              simp [execOp, ho, Instr.build, hz1, run_underlying hu, hpl'', hr1']
            · cases h
          · cases h
        | _ => simp [structFs] at hdesc
    · rename_i n e hd
      rw [hd] at hdesc; simp only [DescOk] at hdesc
      split at h
      · rename_i ei hei
        split at h
        · rename_i l hl
          simp only [Option.some.injEq, Prod.mk.injEq] at h
          obtain ⟨rfl, rfl, rfl, rfl⟩ := h
          refine OpOk.pure fun Γ ρ w a hi hf => ?_
          obtain ⟨h3, _, h5, _⟩ := consts_den (Γ := Γ) (ρ := ρ) (n := nx) hz2
          obtain ⟨r, hr1, hr2, hr3⟩ := fill_sound (fun i => some (i * ei.cells, ei.cells)) hf parts.toList _ l zv.cells hl h3 h5
          refine ⟨.agg r, ?_, by simp only [Den]; exact ⟨r, rfl, hr2⟩, hr3⟩
          simp [execOp, ho, Instr.build, hz1, run_underlying hdesc, (hT e ei hei).sizeOf, hr1]
        · cases h
      · cases h
    · cases h
  · cases h

end
end Go.Proofs.Ytjchmajamlehmaa.X
