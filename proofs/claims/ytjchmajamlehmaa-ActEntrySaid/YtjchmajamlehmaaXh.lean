/- The operations, part 6: slices that are made, and cut. -/
import Derived.Test.YtjchmajamlehmaaXg
namespace Go.Proofs.Ytjchmajamlehmaa.X
open Go Go.RowKit

theorem arr_range0 : Array.range 0 = #[] := rfl

theorem fill_list (s : Nat) : ∀ (vs : List Value) (i0 : Nat) (cs : Array Value), (∀ v ∈ vs, v.cells.size = s) → (i0 + vs.length) * s ≤ cs.size →
    ∃ r, Instr.fill (fun i => some (i * s, s)) cs ((vs.zipIdx i0).map fun x => (x.2, x.1)) = some r ∧ r.toList = cs.toList.take (i0 * s) ++ vs.flatMap (fun v => v.cells.toList) ++ cs.toList.drop ((i0 + vs.length) * s)
  | [], i0, cs, _, _ => ⟨cs, rfl, by simp⟩
  | v :: vs, i0, cs, hv, hle => by
    have hvs : v.cells.size = s := hv v List.mem_cons_self
    have e1 : (i0 + (v :: vs).length) * s = i0 * s + s + vs.length * s := by
      simp only [List.length_cons, Nat.add_mul, Nat.one_mul]; omega
    have e2 : (i0 + 1 + vs.length) * s = i0 * s + s + vs.length * s := by
      simp only [Nat.add_mul, Nat.one_mul]
    have e3 : (i0 + 1) * s = i0 * s + s := by simp only [Nat.add_mul, Nat.one_mul]
    rw [e1] at hle
    have hf := foldl_splice (i0 * s) v.cells.toList cs (by simp; omega)
    rw [Array.toArray_toList] at hf
    generalize hcs : v.cells.zipIdx.foldl (fun cs (x : Value × Nat) => cs.setIfInBounds (i0 * s + x.2) x.1) cs = cs' at hf
    have hsz : cs'.size = cs.size := by
      have := congrArg List.length hf
      simp at this; omega
    obtain ⟨r, hr, hrl⟩ := fill_list s vs (i0 + 1) cs' (fun u hu => hv u (List.mem_cons_of_mem _ hu)) (by rw [hsz, e2]; exact hle)
    refine ⟨r, ?_, ?_⟩
    · simp only [List.zipIdx_cons, List.map_cons]
      unfold Instr.fill
      simp only [hvs]
      rw [if_neg (by simp; omega)]
      rw [← hr, ← hcs]
    · rw [hrl, hf, e1, e2, e3]
      have hl : v.cells.toList.length = s := by simpa using hvs
      have h0 : (cs.toList.take (i0 * s)).length = i0 * s := by simp; omega
      simp only [List.flatMap_cons]
      rw [hl]
      have t1 : (cs.toList.take (i0 * s) ++ v.cells.toList ++ cs.toList.drop (i0 * s + s)).take (i0 * s + s) = cs.toList.take (i0 * s) ++ v.cells.toList := by
        rw [List.take_append_of_le_length (by simp [hl]; omega), List.take_of_length_le (by simp [hl]; omega)]
      have t2 : (cs.toList.take (i0 * s) ++ v.cells.toList ++ cs.toList.drop (i0 * s + s)).drop (i0 * s + s + vs.length * s) = cs.toList.drop (i0 * s + s + vs.length * s) := by
        rw [List.drop_append, List.drop_of_length_le (by simp [hl]; omega), List.nil_append, List.drop_drop]
        congr 1
        simp [hl]; omega
      rw [t1, t2]
      simp only [List.append_assoc]

def rowOk (z : Nat) : List SV → Bool
  | [] => true
  | s :: l => s.bd 0 && (match cellsOf s with | some n => Nat.beq n.length z | none => false) && rowOk z l

theorem rowOk_den {Γ : Gh} {ρ : Env} {z : Nat} : ∀ {xs : List SV} {vs : List Value}, rowOk z xs = true → DenL Γ ρ xs vs → (∀ rest, DenE Γ z xs (vs.flatMap (fun v => v.cells.toList) ++ rest)) ∧ (∀ v ∈ vs, v.cells.size = z) ∧ (∀ c ∈ vs.flatMap (fun v => v.cells.toList), c.oneCell' = true)
  | [], vs, _, hd => by
    simp only [DenL] at hd; subst hd
    simp [DenE]
  | s :: xs, vs, h, hd => by
    simp only [DenL] at hd
    obtain ⟨v, r, rfl, h1, h2⟩ := hd
    simp only [rowOk, Bool.and_eq_true] at h
    obtain ⟨⟨hb, hc⟩, hr⟩ := h
    split at hc
    · rename_i n hn
      obtain ⟨g1, g2, _⟩ := cellsOf_den (n := 0) hn h1 hb
      have hl := g1.length
      have hz : n.length = z := Nat.eq_of_beq_eq_true hc
      simp only [Array.length_toList] at hl
      obtain ⟨k1, k2, k3⟩ := rowOk_den hr h2
      refine ⟨fun rest => ?_, ?_, ?_⟩
      · simp only [DenE, List.flatMap_cons]
        have hvl : v.cells.toList.length = z := by simp; omega
        refine ⟨⟨v, h1.ofBd0 hb, by omega, ?_⟩, ?_⟩
        · rw [List.append_assoc, List.take_append_of_le_length (by omega), List.take_of_length_le (by omega)]
        · rw [List.append_assoc, List.drop_append_of_le_length (by omega), List.drop_of_length_le (by omega), List.nil_append]
          exact k1 rest
      · intro u hu
        rcases List.mem_cons.1 hu with rfl | hu
        · omega
        · exact k2 u hu
      · intro c hc'
        simp only [List.flatMap_cons, List.mem_append] at hc'
        rcases hc' with hc' | hc'
        · exact g2 c hc'
        · exact k3 c hc'
    · cases hc

def dense : Nat → List (Nat × Operand) → Option (List Operand)
  | _, [] => some []
  | i0, (i, x) :: l => match Nat.beq i i0, dense (i0 + 1) l with
    | true, some r => some (x :: r)
    | _, _ => none
theorem dense_spec : ∀ (l : List (Nat × Operand)) (i0 : Nat) (xs : List Operand) (a : Act), dense i0 l = some xs → l.map (fun x => (x.1, a.eval x.2)) = ((xs.map a.eval).zipIdx i0).map (fun x => (x.2, x.1))
  | [], i0, xs, a, h => by simp [dense] at h; subst h; rfl
  | (i, x) :: l, i0, xs, a, h => by
    simp only [dense] at h
    split at h
    · rename_i r hi hr
      simp only [Option.some.injEq] at h
      subst h
      have hi : i = i0 := Nat.eq_of_beq_eq_true hi
      subst hi
      simp only [List.map_cons, List.zipIdx_cons]
      rw [dense_spec l (i + 1) r a hr]
    · cases h

theorem ok_newRow {P : Program} {N : Nat} {fr : Fr} {mem : Mem} {nx : Nat} {o : Oper} {z E : Nat} {xs : List SV} (hrun : ∀ Γ ρ w a, Inv Γ ρ nx mem w → FrDen Γ ρ nx N fr a → ∃ (cs : Array Value), (execOp a.eval o).run P w = .ok (.value (.slice (some ⟨w.heap.size, 0, none⟩) xs.length xs.length)) (w.alloc (.cells cs E)) ∧
    cs.size = xs.length * z ∧ DenE Γ z xs cs.toList ∧ (∀ c ∈ cs.toList, c.oneCell' = true)) : OpOk P N fr mem nx o (.own nx) ((nx, .row z E xs) :: mem) (nx + 1) := by
  intro Γ ρ w a hi hf
  obtain ⟨cs, h1, h2, h3, h4⟩ := hrun Γ ρ w a hi hf
  refine ⟨_, _, Γ, ρ.add nx (some w.heap.size) (some (.slice (some ⟨w.heap.size, 0, none⟩) xs.length xs.length)), _, h1, .inl rfl, ?_, by simp [SV.bd], ?_, Env.add_same _ _ _ _, Nat.le_succ _, Stp.alloc hi _ _ _, Gh.le_refl _, fun _ hb => .inl hb⟩
  · simp only [Den]; exact ⟨Env.add_val _ _ _ _, rfl⟩
  · refine hi.alloc _ _ (.row z E xs) ⟨_, Env.add_val _ _ _ _, .inr ⟨w.heap.size, cs, xs.length, Env.add_blk _ _ _ _, rfl, heap_alloc_new _ _, Nat.le_refl _, h2, h3, h4, ?_⟩⟩ rfl
    cases hq : Γ w.heap.size with
    | none => rfl
    | some cs' => exact absurd (hi.lt hq) (Nat.lt_irrefl _)

section
variable {P : Program} {T : Tab} {N : Nat} {fr : Fr} {mem : Mem} {nx : Nat} {o : Oper}

def xbuildSlice (T : Tab) (fr : Fr) (mem : Mem) (nx : Nat) (t len : Nat) (parts : Array (Nat × Operand)) : R :=
  match fnd T t with
  | some ti => match ti.d with
    | .slice e => match fnd T e, dense 0 parts.toList with
      | some ei, some xs => match Nat.beq xs.length len, rowOk ei.cells (xs.map (evo fr)), Nat.ble (len * ei.cells) 1000, Nat.ble 1 ei.cells with
        | true, true, true, true => some (.own nx, (nx, .row ei.cells e (xs.map (evo fr))) :: mem, nx + 1, True)
        | _, _, _, _ => none
      | _, _ => none
    | _ => none
  | none => none

theorem ok_buildSlice (hT : TabOk P T) {t len : Nat} {parts : Array (Nat × Operand)} (ho : o.op = .buildSlice t len parts) {sv : SV} {mem' : Mem} {nx' : Nat} {k : Prop} (h : xbuildSlice T fr mem nx t len parts = some (sv, mem', nx', k)) : OpOk P N fr mem nx o sv mem' nx' := by
  unfold xbuildSlice at h
  split at h
  · rename_i ti hti
    have hdesc := (hT t ti hti).desc
    split at h
    · rename_i e hd
      rw [hd] at hdesc; simp only [DescOk] at hdesc
      split at h
      · rename_i ei xs hei hds
        split at h
        · rename_i hlen hrow hsm hz1
          simp only [Option.some.injEq, Prod.mk.injEq] at h
          obtain ⟨rfl, rfl, rfl, rfl⟩ := h
          have hlen : xs.length = len := Nat.eq_of_beq_eq_true hlen
          have hsm : len * ei.cells ≤ 1000 := Nat.le_of_ble_eq_true hsm
          have hz1 : 1 ≤ ei.cells := Nat.le_of_ble_eq_true hz1
          refine ok_newRow fun Γ ρ w a hi hf => ?_
          obtain ⟨hd1, _⟩ := mapDen hf xs
          obtain ⟨k1, k2, k3⟩ := rowOk_den hrow hd1
          obtain ⟨zv, hzv, _⟩ := (hT e ei hei).zeroValue
          have he := dense_spec parts.toList 0 xs a hds
          -- the block that the model lays
          let base : Array Value := (Array.range (len * ei.cells)).map (fun i => (if len * ei.cells = 0 then (#[] : Array Value) else zv.cells)[i % (if len * ei.cells = 0 then (#[] : Array Value) else zv.cells).size]!)
          have hbase : base.size = len * ei.cells := by simp [base]
          obtain ⟨r, hr, hrl⟩ := fill_list ei.cells (xs.map a.eval) 0 base k2 (by rw [hbase]; simp [hlen])
          have hrl' : r.toList = (xs.map a.eval).flatMap (fun v => v.cells.toList) := by
            rw [hrl]
            simp [hlen, hbase, List.drop_of_length_le]
          have hfl : ((xs.map a.eval).flatMap (fun v => v.cells.toList)).length = len * ei.cells := by
            have : r.size = base.size := by
              have hh := congrArg List.length hrl
              simp [hlen, hbase] at hh
              have hx : (List.map ((fun v => v.cells.size) ∘ a.eval) xs) = List.replicate len ei.cells := by
                rw [← hlen]
                apply List.eq_replicate_iff.2
                refine ⟨by simp, fun b hb => ?_⟩
                obtain ⟨x, hx, rfl⟩ := List.mem_map.1 hb
                exact k2 _ (List.mem_map.2 ⟨x, hx, rfl⟩)
              simp [Function.comp_def] at hh hx
              rw [hbase]
              simp [hx] at hh
              omega
            rw [← hrl']; simp [this, hbase]
          refine ⟨r, ?_, ?_, ?_, ?_⟩
          · have hsm' : ¬ len * ei.cells > 2 ^ 24 := by omega
            have hr' : Instr.fill (fun i => some (i * ei.cells, ei.cells)) base (parts.toList.map fun x => (x.1, a.eval x.2)) = some r := by rw [he]; exact hr
            simp only [execOp, ho, Instr.buildSlice, Sem.run_bind, run_underlying hdesc, Result.andThen_ok, (hT e ei hei).sizeOf, if_neg hsm', Sem.run_pure, Array.toList_map]
            have hpe : (List.map (fun x : Nat × Operand => (x.1, a.eval x.2)) parts.toList) = List.map (fun (i, x) => (i, a.eval x)) parts.toList := rfl
            rw [hpe] at hr' he
            by_cases h0 : len * ei.cells = 0
            · have hx0 : xs = [] := by
                apply List.eq_nil_of_length_eq_zero
                rcases Nat.mul_eq_zero.1 h0 with h | h <;> omega
              subst hx0
              simp only [List.map_nil, List.zipIdx_nil, List.map_eq_nil_iff] at he
              rw [he] at hr' ⊢
              simp only [List.map_nil, Instr.fill, Option.some.injEq] at hr'
              have hr0 : r = #[] := by rw [← hr']; simp [base, h0]
              subst hr0
              have hl0 : len = 0 := by simpa using hlen.symm
              subst hl0
              simp [Instr.fill, newRow, arr_range0]
            · simp only [if_neg h0, Sem.run_bind, hzv, Result.andThen_ok, Sem.run_pure]
              simp only [base, if_neg h0] at hr'
              rw [hr']
              simp [newRow, hlen]
          · have : r.toList.length = len * ei.cells := by rw [hrl', hfl]
            simpa [hlen] using this
          · rw [hrl']; simpa using k1 []
          · rw [hrl']; exact k3
        · cases h
      · cases h
    · cases h
  · cases h

theorem range_mod (zero : Array Value) (z : Nat) (hz : zero.size = z) (h1 : 1 ≤ z) : ∀ k : Nat, ((Array.range (k * z)).map (fun i => zero[i % zero.size]!)).toList = (List.replicate k zero.toList).flatten
  | 0 => by simp
  | k + 1 => by
    have ih := range_mod zero z hz h1 k
    simp only [Array.toList_map, Array.toList_range] at ih ⊢
    rw [Nat.add_mul, Nat.one_mul, List.range_add, List.map_append, ih, List.replicate_succ', List.flatten_append]
    congr 1
    simp only [List.map_map, List.flatten_cons, List.flatten_nil, List.append_nil]
    apply List.ext_getElem?
    intro j
    by_cases hj : j < z
    · rw [List.getElem?_map, List.getElem?_range hj]
      simp only [Option.map_some, Function.comp_apply, hz]
      rw [show k * z + j = j + k * z from Nat.add_comm _ _, Nat.add_mul_mod_self_right, Nat.mod_eq_of_lt hj]
      have : j < zero.size := by omega
      simp [this]
    · rw [List.getElem?_eq_none (by simp; omega), List.getElem?_eq_none (by simp; omega)]

def zeroSV (ti : TI) : Option SV :=
  match ti.agg with
  | true => match Nat.beq ti.zero.length ti.cells, ti.zero.all SV.single with
    | true, true => some (.agg ti.zero)
    | _, _ => none
  | false => match ti.zero with
    | [s] => match Nat.beq ti.cells 1, s.single with
      | true, true => some s
      | _, _ => none
    | _ => none

theorem DenE_replicate {Γ : Gh} {z : Nat} {s : SV} {v : Value} (hs : Den Γ Env.nil s v) (hz : v.cells.size = z) : ∀ k : Nat, DenE Γ z (List.replicate k s) ((List.replicate k v.cells.toList).flatten)
  | 0 => by simp [DenE]
  | k + 1 => by
    have hl : v.cells.toList.length = z := by simpa using hz
    simp only [List.replicate_succ, List.flatten_cons, DenE]
    refine ⟨⟨v, hs, hz, by rw [List.take_append_of_le_length (by omega), List.take_of_length_le (by omega)]⟩, ?_⟩
    rw [List.drop_append_of_le_length (by omega), List.drop_of_length_le (by omega), List.nil_append]
    exact DenE_replicate hs hz k

def xmakeSlice (T : Tab) (fr : Fr) (mem : Mem) (nx : Nat) (t : Nat) (l c : Operand) : R :=
  match fnd T t with
  | some ti => match ti.d with
    | .slice e => match fnd T e with
      | some ei => match zeroSV ei, evo fr l, evo fr c, Nat.ble 1 ei.cells with
        | some zs, .int _ n, .int _ m, true => some (.own nx, (nx, .row ei.cells e (List.replicate n.toNat zs)) :: mem, nx + 1, n = m ∧ 0 ≤ n ∧ n ≤ 1099511627776 ∧ (ei.bytes : Int) * n ≤ 140737488355328)
        | _, _, _, _ => none
      | none => none
    | _ => none
  | none => none

theorem ok_makeSlice (hT : TabOk P T) {t : Nat} {l c : Operand} (ho : o.op = .makeSlice t l c) {sv : SV} {mem' : Mem} {nx' : Nat} {k : Prop} (h : xmakeSlice T fr mem nx t l c = some (sv, mem', nx', k)) (hk : k) : OpOk P N fr mem nx o sv mem' nx' := by
  unfold xmakeSlice at h
  split at h
  · rename_i ti hti
    have hdesc := (hT t ti hti).desc
    split at h
    · rename_i e hd
      rw [hd] at hdesc; simp only [DescOk] at hdesc
      split at h
      · rename_i ei hei
        split at h
        · rename_i zs k1 n k2 m hzs hl hc hz1
          simp only [Option.some.injEq, Prod.mk.injEq] at h
          obtain ⟨rfl, rfl, rfl, rfl⟩ := h
          obtain ⟨rfl, hk1, hk2, hk3⟩ := hk
          have hz1 : 1 ≤ ei.cells := Nat.le_of_ble_eq_true hz1
          refine ok_newRow fun Γ ρ w a hi hf => ?_
          have g1 := (evo_den hf l).1; have g2 := (evo_den hf c).1
          rw [hl] at g1; rw [hc] at g2; simp only [Den] at g1 g2
          obtain ⟨inf, hinf, hsz, hby, _⟩ := (hT e ei hei).typeInfo
          obtain ⟨zv, hzv, hzc⟩ := (hT e ei hei).zeroValue
          obtain ⟨d1, d2, _, _⟩ := consts_den (Γ := Γ) (ρ := Env.nil) (n := 0) hzc
          have hlen := d1.length
          have hv : ∃ u : Value, Den Γ Env.nil zs u ∧ u.cells.size = ei.cells ∧ u.cells.toList = zv.cells.toList := by
            unfold zeroSV at hzs
            split at hzs
            · split at hzs
              · rename_i h1 h2
                cases hzs
                refine ⟨.agg zv.cells, by simp only [Den]; exact ⟨_, rfl, d1⟩, ?_, rfl⟩
                have : ei.zero.length = ei.cells := Nat.eq_of_beq_eq_true h1
                simp [Value.cells] at hlen ⊢; omega
              · cases hzs
            · split at hzs
              · rename_i s hs
                split at hzs
                · rename_i h1 h2
                  cases hzs
                  rw [hs] at d1
                  simp only [DenL] at d1
                  obtain ⟨u, r, e1, e2, e3⟩ := d1
                  subst e3
                  have h3 := e2.single h2
                  refine ⟨u, e2, ?_, ?_⟩
                  · rw [cells_of_one h3]; simpa using (Nat.eq_of_beq_eq_true h1).symm
                  · rw [cells_of_one h3, e1]
                · cases hzs
              · cases hzs
          obtain ⟨u, hu1, hu2, hu3⟩ := hv
          have hzsz : zv.cells.size = ei.cells := by
            have := congrArg List.length hu3
            simp at this; omega
          have hw : IntKind.i64.wrap n = n := by
            exact IntWalk.i64_in n (by omega)
          refine ⟨(Array.range (n.toNat * ei.cells)).map (zv.cells[· % zv.cells.size]!), ?_, by simp, ?_, ?_⟩
          · have hb2 : ¬ ((ei.bytes : Int) * n > 2 ^ 48) := by omega
            have hneg : ¬ n < 0 := by omega
            simp only [execOp, ho, Instr.makeSlice, Sem.run_bind, run_underlying hdesc, Result.andThen_ok, g1, g2, asInt, asIntOf, Sem.run_pure, hinf, hby, hw, hneg, hb2, decide_false, Bool.or_self, Bool.false_eq_true, if_false, Int.lt_irrefl, gt_iff_lt]
            simp only [(hT e ei hei).sizeOf, Result.andThen_ok, run_askRoom]
            by_cases h0 : n.toNat * ei.cells = 0
            · simp [h0, newRow, arr_range0]
            · simp [h0, hzv, newRow]
          · rw [range_mod zv.cells ei.cells hzsz hz1, ← hu3]
            exact DenE_replicate hu1 hu2 _
          · rw [range_mod zv.cells ei.cells hzsz hz1]
            intro c hc
            rw [List.mem_flatten] at hc
            obtain ⟨l, hl, hc⟩ := hc
            rw [List.mem_replicate] at hl
            rw [hl.2] at hc
            exact d2 c hc
        · cases h
      · cases h
    · cases h
  · cases h

end
end Go.Proofs.Ytjchmajamlehmaa.X
