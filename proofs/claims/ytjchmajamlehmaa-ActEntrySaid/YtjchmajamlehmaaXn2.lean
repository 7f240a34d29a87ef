/- Contracts of Go functions: what each returns, for every input that its premises name; no memory of the caller is touched. Printed by a program. -/
import Derived.Test.YtjchmajamlehmaaXt
import Derived.Test.YtjchmajamlehmaaXq2
import Derived.Test.YtjchmajamlehmaaXu8
namespace Go.Proofs.Ytjchmajamlehmaa.X
open Go Go.RowKit
set_option linter.unusedVariables false      -- a premise may serve only to tell which way is taken
set_option linter.unusedSimpArgs false
theorem awith (ts : List Th) (i : Int) (st : List Int) (b0 b1 : Int) (lg : List Ent) (lf : List OpV) (pd : List Ent) (wt : Bool) (dn : List AnsV) (hp0 : 0 ≤ i) (hp1 : i < (ts.length : Int)) (hp2 : (ts.length : Int) * 144 ≤ 140737488355000) : Pub Try.prog 21 [(sT ts), .i i, .agg (tcs st b0 b1 lg lf pd wt dn)] (fun rv => rv = (sT (List.set ts (Int.toNat i) (Th.mk st b0 b1 lg lf pd wt dn)))) := by
 refine pub_of TT_ok Try.func21 rfl (by decide) (Nat.le_of_ble_eq_true (by kernel_rfl)) (by kernel_rfl) ?_
 refine rgi [] 2 [6, 5, 0, 1] [0] [] trivial ?_
 refine xw_seq ?_
 refine reg ?_
 refine rki [] 1 0 [7, 6, 5, 0, 1] [0] [] trivial ?_
 refine callx (f := 31) (args := [(sT ts)]) (d := (some 8)) (by kernel_rfl) (xcall_of TT_ok Try.func31 rfl (by decide) (Nat.le_of_ble_eq_true (by kernel_rfl)) ?_)
 refine rgi [] 1 [2, 0] [0] [] trivial ?_
 refine xw_seq ?_
 refine rg [] 2 ⟨[(4, .f), (2, .nils), (0, (sT ts))], [(0, .cells (tcs st b0 b1 lg lf pd wt dn) 44)], 1⟩ [((List.map thS ts)) ≠ []] ⟨(mapf_ne (by first | omega | (simp only [len_st]; omega) | (simp; done) | (simp; omega) | (simp [len_st, len_stx, len_sty, len_zx, len_zy]; omega))), trivial⟩ ?_
 refine cf ?_
 refine xw_skip ?_
 refine an ?_
 refine xw_seq ?_
 refine reg ?_
 refine rki [] 3 0 [7, 2] [2, 0] [(∀ y ∈ ((List.map thS ts) : List SV), ElemOk y) ∧ (false = true → 1 ≤ ((List.map thS ts) : List SV).length ∧ ∀ x ∈ ([] : List SV), ElemOk x) ∧ (([] : List SV).length + ((List.map thS ts) : List SV).length) * 144 ≤ 140737488355328 ∧ ([] : List SV).length + ((List.map thS ts) : List SV).length ≤ 4611686018427387904] ⟨⟨elem_th, (fun h => by cases h), by first | omega | (simp only [len_st]; omega) | (simp; done) | (simp; omega) | (simp [len_st, len_stx, len_sty, len_zx, len_zy]; omega), by first | omega | (simp only [len_st]; omega) | (simp; done) | (simp; omega) | (simp [len_st, len_stx, len_sty, len_zx, len_zy]; omega)⟩, trivial⟩ ?_
 refine setr 2 (z := 8) (E := 44) (L := (([]) ++ ((List.map thS ts)))) (L' := (List.map thS ts)) (by kernel_rfl) nil_app ?_
 refine rki [] 1 3 [2] [2, 0] [] trivial ?_
 refine en ?_
 refine an ?_
 refine xw_ret ?_
 refine ⟨.own 2, by kernel_rfl, ?_⟩
 refine rk [] 1 2 ⟨[(0, .own 2), (6, .nils), (5, .p 0), (1, .i i)], [(2, .row 8 44 (List.map thS ts)), (0, .cells (tcs st b0 b1 lg lf pd wt dn) 44)], 3⟩ [] trivial ?_
 refine en ?_
 refine an ?_
 refine xw_seq ?_
 refine reg ?_
 refine rki [] 5 0 [0, 6] [2] [True, (0 : Int) ≤ i ∧ i < ((((List.map thS ts)).length : Nat) : Int), ((i : Int).toNat) < ((List.map thS ts)).length] ⟨trivial, ⟨by omega, (by first | omega | (simp only [len_st]; omega) | (simp; done) | (simp; omega) | (simp [len_st, len_stx, len_sty, len_zx, len_zy]; omega))⟩, (by first | omega | (simp only [len_st]; omega) | (simp; done) | (simp; omega) | (simp [len_st, len_stx, len_sty, len_zx, len_zy]; omega)), trivial⟩ ?_
 refine setr 2 (z := 8) (E := 44) (L := (((List.map thS ts)).set ((i : Int).toNat) (.agg (tcs st b0 b1 lg lf pd wt dn)))) (L' := (List.map thS (List.set ts ((i : Int).toNat) (Th.mk st b0 b1 lg lf pd wt dn)))) (by kernel_rfl) (mapf_set (f := thS) (v := (Th.mk st b0 b1 lg lf pd wt dn))) ?_
 refine en ?_
 refine an ?_
 refine rgi [] 2 [6] [2] [] trivial ?_
 refine xw_ret ?_
 exact bk_ret (.own 2) (sT (List.set ts ((i : Int).toNat) (Th.mk st b0 b1 lg lf pd wt dn))) (sT (List.set ts (Int.toNat i) (Th.mk st b0 b1 lg lf pd wt dn))) (by kernel_rfl) (by kernel_rfl) (wkd [(false = true → false = true), (List.map thS (List.set ts ((i : Int).toNat) (Th.mk st b0 b1 lg lf pd wt dn))) = (List.map thS (List.set ts (Int.toNat i) (Th.mk st b0 b1 lg lf pd wt dn)))] (by kernel_rfl) ⟨id, (by first | omega | grind), trivial⟩) rfl

theorem abeha (l : List AnsV) (e v : Int) (yes : Bool) (hp0 : (l.length : Int) * 24 ≤ 140737488355000) : Pub Try.prog 29 [(sA l), .agg [.i e, .u v, .bool yes]] (fun rv => rv = (sA (l ++ [(AnsV.mk e v yes)]))) := by
 refine pub_of TT_ok Try.func29 rfl (by decide) (Nat.le_of_ble_eq_true (by kernel_rfl)) (by kernel_rfl) ?_
 refine rgi [] 2 [4, 3, 0] [0] [] trivial ?_
 refine xw_seq ?_
 refine sreg hmix [([(0, .cells [.i e, .u v, .bool yes] 53)], 1), ([(1, .row 3 53 (((List.map ansS ((l.take (((l.length : Int) : Int).toNat)).drop ((0 : Int).toNat)))) ++ ((List.map ansS [(AnsV.mk e v yes)])))), (0, .cells [.i e, .u v, .bool yes] 53)], 2)] [8] [(2, [1]), (4, [3]), (5, [0, 1, 2, 3, 4]), (7, [6]), (8, [0, 1, 2, 3, 4, 5, 6, 7]), (9, [0, 1, 2, 3, 4, 5, 6, 7, 8])] (by kernel_rfl) (by kernel_rfl) (by kernel_rfl) (by kernel_rfl) (by kernel_rfl) ?_
 refine sri [(2, .i ((l).length : Int)), (4, .i ((l).length : Int))] 6 0 [True, True, ((((List.map ansS l)).length : Nat) : Int) = ((l).length : Int), True, ((((List.map ansS l)).length : Nat) : Int) = ((l).length : Int), (0 : Int) ≤ 0 ∧ 0 ≤ ((l).length : Int) ∧ ((l).length : Int) = ((l).length : Int) ∧ ((l).length : Int) ≤ ((((List.map ansS l)).length : Nat) : Int)] ⟨trivial, trivial, (by simp), trivial, (by simp), ⟨by omega, by omega, by omega, by first | omega | (simp only [len_st]; omega) | (simp; done) | (simp; omega) | (simp [len_st, len_stx, len_sty, len_zx, len_zy]; omega)⟩, trivial⟩ ?_
 refine ssets 10 (x := true) (z := 3) (L := ((((List.map ansS l)).take (((l).length : Int) : Int).toNat).drop (0 : Int).toNat)) (L' := (List.map ansS ((l.take (((l.length : Int) : Int).toNat)).drop ((0 : Int).toNat)))) (by kernel_rfl) mapf_cut ?_
 refine sri [(7, .t)] 4 6 [True, True, (∀ y ∈ ((List.map ansS [(AnsV.mk e v yes)]) : List SV), ElemOk y) ∧ (true = true → 1 ≤ ((List.map ansS [(AnsV.mk e v yes)]) : List SV).length ∧ ∀ x ∈ ((List.map ansS ((l.take (((l.length : Int) : Int).toNat)).drop ((0 : Int).toNat))) : List SV), ElemOk x) ∧ (((List.map ansS ((l.take (((l.length : Int) : Int).toNat)).drop ((0 : Int).toNat))) : List SV).length + ((List.map ansS [(AnsV.mk e v yes)]) : List SV).length) * 24 ≤ 140737488355328 ∧ ((List.map ansS ((l.take (((l.length : Int) : Int).toNat)).drop ((0 : Int).toNat))) : List SV).length + ((List.map ansS [(AnsV.mk e v yes)]) : List SV).length ≤ 4611686018427387904, sm ([(1, .row 3 53 (((List.map ansS ((l.take (((l.length : Int) : Int).toNat)).drop ((0 : Int).toNat)))) ++ ((List.map ansS [(AnsV.mk e v yes)])))), (0, .cells [.i e, .u v, .bool yes] 53)] : Mem), sm (2 : Nat), True] ⟨trivial, trivial, ⟨elem_ans, (fun _ => ⟨by first | omega | (simp only [len_st]; omega) | (simp; done) | (simp; omega) | (simp [len_st, len_stx, len_sty, len_zx, len_zy]; omega), elem_ans⟩), by first | omega | (simp only [len_st]; omega) | (simp; done) | (simp; omega) | (simp [len_st, len_stx, len_sty, len_zx, len_zy]; omega), by first | omega | (simp only [len_st]; omega) | (simp; done) | (simp; omega) | (simp [len_st, len_stx, len_sty, len_zx, len_zy]; omega)⟩, rfl, rfl, trivial, trivial⟩ ?_
 refine sen ?_
 refine an ?_
 refine xw_ret ?_
 exact bk_ret (.own 1) (.sl false 3 (((List.map ansS ((l.take (((l.length : Int) : Int).toNat)).drop ((0 : Int).toNat)))) ++ ((List.map ansS [(AnsV.mk e v yes)])))) (sA (l ++ [(AnsV.mk e v yes)])) (by kernel_rfl) (by kernel_rfl) (wkd [(false = true → false = true), (((List.map ansS ((l.take (((l.length : Int) : Int).toNat)).drop ((0 : Int).toNat)))) ++ ((List.map ansS [(AnsV.mk e v yes)]))) = (List.map ansS (l ++ [(AnsV.mk e v yes)]))] (by kernel_rfl) ⟨id, (by first | rfl | (simp; done)), trivial⟩) rfl

theorem abehi (l : List Int) (e : Int) (hp0 : (l.length : Int) * 8 ≤ 140737488355000) : Pub Try.prog 30 [(sN l), .i e] (fun rv => rv = (sN (l ++ [e]))) := by
 refine pub_of TT_ok Try.func30 rfl (by decide) (Nat.le_of_ble_eq_true (by kernel_rfl)) (by kernel_rfl) ?_
 refine rgi [] 1 [4, 0, 1] [] [] trivial ?_
 refine xw_seq ?_
 refine reg ?_
 refine rki [(2, .i ((l).length : Int)), (4, .i ((l).length : Int))] 6 0 [10, 4, 1] [] [((((List.map (SV.int .i64) l)).length : Nat) : Int) = ((l).length : Int), ((((List.map (SV.int .i64) l)).length : Nat) : Int) = ((l).length : Int), (0 : Int) ≤ 0 ∧ 0 ≤ ((l).length : Int) ∧ ((l).length : Int) = ((l).length : Int) ∧ ((l).length : Int) ≤ ((((List.map (SV.int .i64) l)).length : Nat) : Int)] ⟨(by simp), (by simp), ⟨by omega, by omega, by omega, by first | omega | (simp only [len_st]; omega) | (simp; done) | (simp; omega) | (simp [len_st, len_stx, len_sty, len_zx, len_zy]; omega)⟩, trivial⟩ ?_
 refine sets 10 (x := true) (z := 1) (L := ((((List.map (SV.int .i64) l)).take (((l).length : Int) : Int).toNat).drop (0 : Int).toNat)) (L' := (List.map (SV.int .i64) (l.take (((l.length : Int) : Int).toNat)))) (by kernel_rfl) cut0 ?_
 refine rki [(7, .t)] 3 6 [13, 4] [0] [(∀ y ∈ ([.i e] : List SV), ElemOk y) ∧ (true = true → 1 ≤ ([.i e] : List SV).length ∧ ∀ x ∈ ((List.map (SV.int .i64) (l.take (((l.length : Int) : Int).toNat))) : List SV), ElemOk x) ∧ (((List.map (SV.int .i64) (l.take (((l.length : Int) : Int).toNat))) : List SV).length + ([.i e] : List SV).length) * 8 ≤ 140737488355328 ∧ ((List.map (SV.int .i64) (l.take (((l.length : Int) : Int).toNat))) : List SV).length + ([.i e] : List SV).length ≤ 4611686018427387904] ⟨⟨(by intro y hy; simp at hy; first | (subst hy; rfl) | (rcases hy with rfl | rfl <;> rfl)), (fun _ => ⟨by first | omega | (simp only [len_st]; omega) | (simp; done) | (simp; omega) | (simp [len_st, len_stx, len_sty, len_zx, len_zy]; omega), elem_map⟩), by first | omega | (simp only [len_st]; omega) | (simp; done) | (simp; omega) | (simp [len_st, len_stx, len_sty, len_zx, len_zy]; omega), by first | omega | (simp only [len_st]; omega) | (simp; done) | (simp; omega) | (simp [len_st, len_stx, len_sty, len_zx, len_zy]; omega)⟩, trivial⟩ ?_
 refine setr 0 (z := 1) (E := 3) (L := (((List.map (SV.int .i64) (l.take (((l.length : Int) : Int).toNat)))) ++ ([.i e]))) (L' := (List.map (SV.int .i64) ((l.take (((l.length : Int) : Int).toNat)) ++ [e]))) (by kernel_rfl) app_one ?_
 refine rk [] 1 9 ⟨[(4, .own 0)], [(0, .row 1 3 (List.map (SV.int .i64) ((l.take (((l.length : Int) : Int).toNat)) ++ [e])))], 1⟩ [] trivial ?_
 refine en ?_
 refine an ?_
 refine xw_ret ?_
 exact bk_ret (.own 0) (sN ((l.take (((l.length : Int) : Int).toNat)) ++ [e])) (sN (l ++ [e])) (by kernel_rfl) (by kernel_rfl) (wkd [(false = true → false = true), (List.map (SV.int .i64) ((l.take (((l.length : Int) : Int).toNat)) ++ [e])) = (List.map (SV.int .i64) (l ++ [e]))] (by kernel_rfl) ⟨id, (by first | rfl | (simp; done)), trivial⟩) rfl

set_option maxHeartbeats 8000000 in
theorem aans (W : Int) (xs ys : List Int) (f0 f1 f2 t0 t1 t2 sz lm : Int) (ts : List Th) (ph scn fl : Int) (os : List Int) (brk th e v : Int) (yes : Bool) (hp0 : -9223372036854775808 ≤ W ∧ W ≤ 9223372036854775807) (hp1 : U64s xs) (hp2 : U64s ys) (hp3 : -9223372036854775808 ≤ f0 ∧ f0 ≤ 9223372036854775807) (hp4 : -9223372036854775808 ≤ f1 ∧ f1 ≤ 9223372036854775807) (hp5 : -9223372036854775808 ≤ f2 ∧ f2 ≤ 9223372036854775807) (hp6 : -9223372036854775808 ≤ t0 ∧ t0 ≤ 9223372036854775807) (hp7 : -9223372036854775808 ≤ t1 ∧ t1 ≤ 9223372036854775807) (hp8 : -9223372036854775808 ≤ t2 ∧ t2 ≤ 9223372036854775807) (hp9 : -9223372036854775808 ≤ sz ∧ sz ≤ 9223372036854775807) (hp10 : -9223372036854775808 ≤ lm ∧ lm ≤ 9223372036854775807) (hp11 : Ths ts) (hp12 : (ts.length : Int) * 144 ≤ 140737488355000) (hp13 : -9223372036854775808 ≤ ph ∧ ph ≤ 9223372036854775807) (hp14 : -9223372036854775808 ≤ scn ∧ scn ≤ 9223372036854775807) (hp15 : -9223372036854775808 ≤ fl ∧ fl ≤ 9223372036854775807) (hp16 : I64s os) (hp17 : (os.length : Int) * 8 ≤ 140737488355000) (hp18 : -9223372036854775808 ≤ brk ∧ brk ≤ 9223372036854775807) (hp19 : -9223372036854775808 ≤ th ∧ th ≤ 9223372036854775807) (hp20 : -9223372036854775808 ≤ e ∧ e ≤ 9223372036854775807) (hp21 : 0 ≤ v ∧ v ≤ 18446744073709551615) : Pub Try.prog 16 [.agg (hp W xs ys f0 f1 f2 t0 t1 t2 sz lm ts ph scn fl os brk), .i th, .agg [.i e, .u v, .bool yes]] (fun rv => ((¬ (0 ≤ th ∧ th < (ts.length : Int))) ∧ rv = .agg (hp W xs ys f0 f1 f2 t0 t1 t2 sz lm ts ph scn fl os brk)) ∨ ((0 ≤ th ∧ th < (ts.length : Int)) ∧ (0 < ((Th.lf (thA ts th)).length : Int)) ∧ rv = .agg (hp W xs ys f0 f1 f2 t0 t1 t2 sz lm (List.set ts (Int.toNat th) (tN (thA ts th) ((Th.lf (thA ts th)).drop 1) ((Th.dn (thA ts th)) ++ [(AnsV.mk e v yes)]))) ph scn fl (os ++ [th]) brk)) ∨ ((0 ≤ th ∧ th < (ts.length : Int)) ∧ (((Th.lf (thA ts th)).length : Int) = 0) ∧ rv = .agg (hp W xs ys f0 f1 f2 t0 t1 t2 sz lm (List.set ts (Int.toNat th) (tN (thA ts th) (Th.lf (thA ts th)) ((Th.dn (thA ts th)) ++ [(AnsV.mk e v yes)]))) ph scn fl (os ++ [th]) brk))) := by
 refine pub_of TT_ok Try.func16 rfl (by decide) (Nat.le_of_ble_eq_true (by kernel_rfl)) (by kernel_rfl) ?_
 refine rgi [] 3 [6, 5, 3, 1] [2, 1, 0] [] trivial ?_
 refine xw_seq ?_
 refine xw_seq ?_
 refine reg ?_
 refine rki [(1, .bool (decide (th < 0)))] 3 0 [10, 6, 5, 3, 1] [2, 1, 0] [sm (decide (th < 0))] ⟨rfl, trivial⟩ ?_
 refine splitr 10 (x := (decide (th < 0))) (by kernel_rfl) (fun h0 => ?_) (fun h0 => ?_)
 ·
  replace h0 : th < 0 := of_decide_eq_true h0
  refine rki [] 6 3 [16, 6, 5, 3, 1] [2, 1, 0] [True] ⟨trivial, trivial⟩ ?_
  refine en ?_
  refine an ?_
  refine ct ?_
  refine rg [] 2 ⟨[(6, .p 2), (5, .p 1), (3, .p 0), (1, .i th)], [(2, .cells (hp W xs ys f0 f1 f2 t0 t1 t2 sz lm ts ph scn fl os brk) 32), (1, .cells [.i e, .u v, .bool yes] 53), (0, .cells (hp W xs ys f0 f1 f2 t0 t1 t2 sz lm ts ph scn fl os brk) 32)], 3⟩ [True, True] ⟨trivial, trivial, trivial⟩ ?_
  refine xw_ret ?_
  refine an_ret ?_
  exact bs (.agg (hp W xs ys f0 f1 f2 t0 t1 t2 sz lm ts ph scn fl os brk)) (Or.inl <| ⟨(by omega), rfl⟩)
 ·
  replace h0 : ¬ (th < 0) := of_decide_eq_false h0
  refine rki [(6, .i ((ts).length : Int)), (7, .bool (decide (((ts).length : Int) ≤ th)))] 6 3 [16, 6, 5, 3, 1] [2, 1, 0] [True, ((((List.map thS ts)).length : Nat) : Int) = ((ts).length : Int), sm (decide (((ts).length : Int) ≤ th)), True] ⟨trivial, (by simp), rfl, trivial, trivial⟩ ?_
  refine en ?_
  refine an ?_
  refine xw_cond (b := (decide (((ts).length : Int) ≤ th))) (by kernel_rfl) (fun h1 => ?_) (fun h1 => ?_)
  ·
   replace h1 : (ts.length : Int) ≤ th := of_decide_eq_true h1
   refine rg [] 2 ⟨[(6, .p 2), (5, .p 1), (3, .p 0), (1, .i th)], [(2, .cells (hp W xs ys f0 f1 f2 t0 t1 t2 sz lm ts ph scn fl os brk) 32), (1, .cells [.i e, .u v, .bool yes] 53), (0, .cells (hp W xs ys f0 f1 f2 t0 t1 t2 sz lm ts ph scn fl os brk) 32)], 3⟩ [True, True] ⟨trivial, trivial, trivial⟩ ?_
   refine xw_ret ?_
   refine an_ret ?_
   exact bs (.agg (hp W xs ys f0 f1 f2 t0 t1 t2 sz lm ts ph scn fl os brk)) (Or.inl <| ⟨(by omega), rfl⟩)
  ·
   replace h1 : ¬ ((ts.length : Int) ≤ th) := of_decide_eq_false h1
   refine xw_skip ?_
   refine an ?_
   refine xw_seq ?_
   refine reg ?_
   refine rk [(3, .agg (tc (thA ts th)))] 4 0 ⟨[(21, .elt (.agg (tc (thA ts th)))), (6, .p 2), (5, .p 1), (3, .p 0), (1, .i th)], [(2, .cells zh 32), (1, .cells [.i e, .u v, .bool yes] 53), (0, .cells (hp W xs ys f0 f1 f2 t0 t1 t2 sz lm ts ph scn fl os brk) 32)], 3⟩ [True, (0 : Int) ≤ th ∧ th < ((((List.map thS ts)).length : Nat) : Int) ∧ ((List.map thS ts))[(th : Int).toNat]? = some (.agg (tc (thA ts th)))] ⟨trivial, (ix_th (by omega) (by first | omega | (simp only [len_st]; omega) | (simp; done) | (simp; omega) | (simp [len_st, len_stx, len_sty, len_zx, len_zy]; omega))), trivial⟩ ?_
   have h2 : U64s (Th.st (thA ts th)) := (Ths.at (by first | assumption | exact U64s.st (by assumption) _ (by omega)) _).1
   have h3 : ((Th.st (thA ts th)).length : Int) * 8 ≤ 140737488355000 := (Ths.at (by first | assumption | exact U64s.st (by assumption) _ (by omega)) _).2.1
   have h4 : (-9223372036854775808 ≤ (Th.b0 (thA ts th)) ∧ (Th.b0 (thA ts th)) ≤ 9223372036854775807) := (Ths.at (by first | assumption | exact U64s.st (by assumption) _ (by omega)) _).2.2.1
   have h5 : (-9223372036854775808 ≤ (Th.b1 (thA ts th)) ∧ (Th.b1 (thA ts th)) ≤ 9223372036854775807) := (Ths.at (by first | assumption | exact U64s.st (by assumption) _ (by omega)) _).2.2.2.1
   have h6 : Ents (Th.lg (thA ts th)) := (Ths.at (by first | assumption | exact U64s.st (by assumption) _ (by omega)) _).2.2.2.2.1
   have h7 : ((Th.lg (thA ts th)).length : Int) * 16 ≤ 140737488355000 := (Ths.at (by first | assumption | exact U64s.st (by assumption) _ (by omega)) _).2.2.2.2.2.1
   have h8 : Ops (Th.lf (thA ts th)) := (Ths.at (by first | assumption | exact U64s.st (by assumption) _ (by omega)) _).2.2.2.2.2.2.1
   have h9 : ((Th.lf (thA ts th)).length : Int) * 64 ≤ 140737488355000 := (Ths.at (by first | assumption | exact U64s.st (by assumption) _ (by omega)) _).2.2.2.2.2.2.2.1
   have h10 : Ents (Th.pd (thA ts th)) := (Ths.at (by first | assumption | exact U64s.st (by assumption) _ (by omega)) _).2.2.2.2.2.2.2.2.1
   have h11 : ((Th.pd (thA ts th)).length : Int) * 16 ≤ 140737488355000 := (Ths.at (by first | assumption | exact U64s.st (by assumption) _ (by omega)) _).2.2.2.2.2.2.2.2.2.1
   have h12 : Anss (Th.dn (thA ts th)) := (Ths.at (by first | assumption | exact U64s.st (by assumption) _ (by omega)) _).2.2.2.2.2.2.2.2.2.2.1
   have h13 : ((Th.dn (thA ts th)).length : Int) * 24 ≤ 140737488355000 := (Ths.at (by first | assumption | exact U64s.st (by assumption) _ (by omega)) _).2.2.2.2.2.2.2.2.2.2.2
   refine rki [] 3 4 [7, 6, 5, 3, 1] [3, 2, 1, 0] [True, True] ⟨trivial, trivial, trivial⟩ ?_
   refine en ?_
   refine an ?_
   refine xw_seq ?_
   refine reg ?_
   refine rki [] 3 0 [25, 24, 7, 6, 3, 1] [3, 2, 0] [True, True] ⟨trivial, trivial, trivial⟩ ?_
   refine pc (abeha (Th.dn (thA ts th)) e v yes (by omega)) ?_
   refine rki [] 2 4 [7, 6, 3, 1] [3, 2, 0] [True] ⟨trivial, trivial⟩ ?_
   refine en ?_
   refine an ?_
   refine xw_seq ?_
   refine rg [(2, .i (((Th.lf (thA ts th))).length : Int)), (3, .bool (decide (0 < (((Th.lf (thA ts th))).length : Int))))] 4 ⟨[(31, .bool (decide (0 < (((Th.lf (thA ts th))).length : Int)))), (7, .p 3), (6, .p 2), (3, .p 0), (1, .i th)], [(3, .cells (tcs (Th.st (thA ts th)) (Th.b0 (thA ts th)) (Th.b1 (thA ts th)) (Th.lg (thA ts th)) (Th.lf (thA ts th)) (Th.pd (thA ts th)) (Th.wt (thA ts th)) ((Th.dn (thA ts th)) ++ [(AnsV.mk e v yes)])) 44), (2, .cells zh 32), (0, .cells (hp W xs ys f0 f1 f2 t0 t1 t2 sz lm ts ph scn fl os brk) 32)], 4⟩ [True, ((((List.map opS (Th.lf (thA ts th)))).length : Nat) : Int) = (((Th.lf (thA ts th))).length : Int), sm (decide (0 < (((Th.lf (thA ts th))).length : Int)))] ⟨trivial, (by simp), rfl, trivial⟩ ?_
   refine xw_cond (b := (decide (0 < (((Th.lf (thA ts th))).length : Int)))) (by kernel_rfl) (fun h14 => ?_) (fun h14 => ?_)
   ·
    replace h14 : 0 < ((Th.lf (thA ts th)).length : Int) := of_decide_eq_true h14
    refine reg ?_
    refine rki [(4, .i (((Th.lf (thA ts th))).length : Int)), (7, .i (((Th.lf (thA ts th))).length : Int))] 9 0 [40, 7, 6, 3, 1] [3, 2, 0] [True, True, ((((List.map opS (Th.lf (thA ts th)))).length : Nat) : Int) = (((Th.lf (thA ts th))).length : Int), True, ((((List.map opS (Th.lf (thA ts th)))).length : Nat) : Int) = (((Th.lf (thA ts th))).length : Int), (0 : Int) ≤ 1 ∧ 1 ≤ (((Th.lf (thA ts th))).length : Int) ∧ (((Th.lf (thA ts th))).length : Int) = (((Th.lf (thA ts th))).length : Int) ∧ (((Th.lf (thA ts th))).length : Int) ≤ ((((List.map opS (Th.lf (thA ts th)))).length : Nat) : Int)] ⟨trivial, trivial, (by simp), trivial, (by simp), ⟨by omega, by omega, by omega, by first | omega | (simp only [len_st]; omega) | (simp; done) | (simp; omega) | (simp [len_st, len_stx, len_sty, len_zx, len_zy]; omega)⟩, trivial⟩ ?_
    refine sets 40 (x := true) (z := 8) (L := ((((List.map opS (Th.lf (thA ts th)))).take ((((Th.lf (thA ts th))).length : Int) : Int).toNat).drop (1 : Int).toNat)) (L' := (List.map opS (((Th.lf (thA ts th)).take ((((Th.lf (thA ts th)).length : Int) : Int).toNat)).drop ((1 : Int).toNat)))) (by kernel_rfl) mapf_cut ?_
    refine rki [] 2 9 [7, 6, 3, 1] [3, 2, 0] [True] ⟨trivial, trivial⟩ ?_
    refine en ?_
    refine an ?_
    refine xw_seq ?_
    refine reg ?_
    refine rki [] 4 0 [45, 44, 43, 6, 3, 1] [2, 0] [True, True] ⟨trivial, trivial, trivial⟩ ?_
    refine pcall1 (args := [(sT ts), .i th, .agg [(s64 (Th.st (thA ts th))), .i (Th.b0 (thA ts th)), .i (Th.b1 (thA ts th)), (sE (Th.lg (thA ts th))), .sl true 8 (List.map opS (((Th.lf (thA ts th)).take ((((Th.lf (thA ts th)).length : Int) : Int).toNat)).drop ((1 : Int).toNat))), (sE (Th.pd (thA ts th))), .bool (Th.wt (thA ts th)), (sA ((Th.dn (thA ts th)) ++ [(AnsV.mk e v yes)]))]]) (args' := [(sT ts), .i th, .agg (tcs (Th.st (thA ts th)) (Th.b0 (thA ts th)) (Th.b1 (thA ts th)) (Th.lg (thA ts th)) (((Th.lf (thA ts th)).take ((((Th.lf (thA ts th)).length : Int) : Int).toNat)).drop ((1 : Int).toNat)) (Th.pd (thA ts th)) (Th.wt (thA ts th)) ((Th.dn (thA ts th)) ++ [(AnsV.mk e v yes)]))]) (d := (some 46)) (sv := (sT (List.set ts (Int.toNat th) (Th.mk (Th.st (thA ts th)) (Th.b0 (thA ts th)) (Th.b1 (thA ts th)) (Th.lg (thA ts th)) (((Th.lf (thA ts th)).take ((((Th.lf (thA ts th)).length : Int) : Int).toNat)).drop ((1 : Int).toNat)) (Th.pd (thA ts th)) (Th.wt (thA ts th)) ((Th.dn (thA ts th)) ++ [(AnsV.mk e v yes)]))))) (by kernel_rfl) (awith ts th (Th.st (thA ts th)) (Th.b0 (thA ts th)) (Th.b1 (thA ts th)) (Th.lg (thA ts th)) (((Th.lf (thA ts th)).take ((((Th.lf (thA ts th)).length : Int) : Int).toNat)).drop ((1 : Int).toNat)) (Th.pd (thA ts th)) (Th.wt (thA ts th)) ((Th.dn (thA ts th)) ++ [(AnsV.mk e v yes)]) (by omega) (by omega) (by omega)) [(false = true → false = true), ((List.map thS ts) : List SV) = (List.map thS ts), (th : Int) = th, (false = true → false = true), ((m64 (Th.st (thA ts th))) : List SV) = (m64 (Th.st (thA ts th))), ((Th.b0 (thA ts th)) : Int) = (Th.b0 (thA ts th)), ((Th.b1 (thA ts th)) : Int) = (Th.b1 (thA ts th)), (false = true → false = true), ((List.map entS (Th.lg (thA ts th))) : List SV) = (List.map entS (Th.lg (thA ts th))), (false = true → true = true), ((List.map opS (((Th.lf (thA ts th)).take ((((Th.lf (thA ts th)).length : Int) : Int).toNat)).drop ((1 : Int).toNat))) : List SV) = (List.map opS (((Th.lf (thA ts th)).take ((((Th.lf (thA ts th)).length : Int) : Int).toNat)).drop ((1 : Int).toNat))), (false = true → false = true), ((List.map entS (Th.pd (thA ts th))) : List SV) = (List.map entS (Th.pd (thA ts th))), (Th.wt (thA ts th)) = (Th.wt (thA ts th)), (false = true → false = true), ((List.map ansS ((Th.dn (thA ts th)) ++ [(AnsV.mk e v yes)])) : List SV) = (List.map ansS ((Th.dn (thA ts th)) ++ [(AnsV.mk e v yes)]))] (by kernel_rfl) ⟨id, rfl, rfl, id, rfl, rfl, rfl, id, rfl, (fun h => by cases h), rfl, id, rfl, rfl, id, rfl, trivial⟩ (by kernel_rfl) ?_
    refine rk [] 2 5 ⟨[(6, .p 2), (3, .p 0), (1, .i th)], [(2, .cells zh 32), (0, .cells (hp W xs ys f0 f1 f2 t0 t1 t2 sz lm (List.set ts (Int.toNat th) (Th.mk (Th.st (thA ts th)) (Th.b0 (thA ts th)) (Th.b1 (thA ts th)) (Th.lg (thA ts th)) (((Th.lf (thA ts th)).take ((((Th.lf (thA ts th)).length : Int) : Int).toNat)).drop ((1 : Int).toNat)) (Th.pd (thA ts th)) (Th.wt (thA ts th)) ((Th.dn (thA ts th)) ++ [(AnsV.mk e v yes)]))) ph scn fl os brk) 32)], 4⟩ [True] ⟨trivial, trivial⟩ ?_
    refine en ?_
    refine an ?_
    refine xw_seq ?_
    refine reg ?_
    refine rki [] 3 0 [50, 49, 6, 3] [2, 0] [True] ⟨trivial, trivial⟩ ?_
    refine pc (abehi os th (by omega)) ?_
    refine rki [] 2 4 [6, 3] [2, 0] [True] ⟨trivial, trivial⟩ ?_
    refine en ?_
    refine an ?_
    refine rgi [] 2 [6] [2] [True, True] ⟨trivial, trivial, trivial⟩ ?_
    refine xw_ret ?_
    exact br (.agg (hp W xs ys f0 f1 f2 t0 t1 t2 sz lm (List.set ts (Int.toNat th) (Th.mk (Th.st (thA ts th)) (Th.b0 (thA ts th)) (Th.b1 (thA ts th)) (Th.lg (thA ts th)) (((Th.lf (thA ts th)).take ((((Th.lf (thA ts th)).length : Int) : Int).toNat)).drop ((1 : Int).toNat)) (Th.pd (thA ts th)) (Th.wt (thA ts th)) ((Th.dn (thA ts th)) ++ [(AnsV.mk e v yes)]))) ph scn fl (os ++ [th]) brk)) (.agg (hp W xs ys f0 f1 f2 t0 t1 t2 sz lm (List.set ts (Int.toNat th) (tN (thA ts th) ((Th.lf (thA ts th)).drop 1) ((Th.dn (thA ts th)) ++ [(AnsV.mk e v yes)]))) ph scn fl (os ++ [th]) brk)) (wkd [(W : Int) = W, (false = true → false = true), (m64 xs) = (m64 xs), (false = true → false = true), (m64 ys) = (m64 ys), (f0 : Int) = f0, (f1 : Int) = f1, (f2 : Int) = f2, (t0 : Int) = t0, (t1 : Int) = t1, (t2 : Int) = t2, (sz : Int) = sz, (lm : Int) = lm, (false = true → false = true), (List.map thS (List.set ts (Int.toNat th) (Th.mk (Th.st (thA ts th)) (Th.b0 (thA ts th)) (Th.b1 (thA ts th)) (Th.lg (thA ts th)) (((Th.lf (thA ts th)).take ((((Th.lf (thA ts th)).length : Int) : Int).toNat)).drop ((1 : Int).toNat)) (Th.pd (thA ts th)) (Th.wt (thA ts th)) ((Th.dn (thA ts th)) ++ [(AnsV.mk e v yes)])))) = (List.map thS (List.set ts (Int.toNat th) (tN (thA ts th) ((Th.lf (thA ts th)).drop 1) ((Th.dn (thA ts th)) ++ [(AnsV.mk e v yes)])))), (ph : Int) = ph, (scn : Int) = scn, (fl : Int) = fl, (false = true → false = true), (List.map (SV.int .i64) (os ++ [th])) = (List.map (SV.int .i64) (os ++ [th])), (brk : Int) = brk] (by kernel_rfl) ⟨rfl, id, rfl, id, rfl, rfl, rfl, rfl, rfl, rfl, rfl, rfl, rfl, id, (by first | rfl | (simp [tN]; done)), rfl, rfl, rfl, id, rfl, rfl, trivial⟩) (Or.inr <| Or.inl <| ⟨(by omega), (by omega), rfl⟩)
   ·
    replace h14 : ¬ (0 < ((Th.lf (thA ts th)).length : Int)) := of_decide_eq_false h14
    refine xw_skip ?_
    refine an ?_
    refine xw_seq ?_
    refine reg ?_
    refine rki [] 4 0 [45, 44, 43, 6, 3, 1] [2, 0] [True, True] ⟨trivial, trivial, trivial⟩ ?_
    refine pcall1 (args := [(sT ts), .i th, .agg (tcs (Th.st (thA ts th)) (Th.b0 (thA ts th)) (Th.b1 (thA ts th)) (Th.lg (thA ts th)) (Th.lf (thA ts th)) (Th.pd (thA ts th)) (Th.wt (thA ts th)) ((Th.dn (thA ts th)) ++ [(AnsV.mk e v yes)]))]) (args' := [(sT ts), .i th, .agg (tcs (Th.st (thA ts th)) (Th.b0 (thA ts th)) (Th.b1 (thA ts th)) (Th.lg (thA ts th)) (Th.lf (thA ts th)) (Th.pd (thA ts th)) (Th.wt (thA ts th)) ((Th.dn (thA ts th)) ++ [(AnsV.mk e v yes)]))]) (d := (some 46)) (sv := (sT (List.set ts (Int.toNat th) (Th.mk (Th.st (thA ts th)) (Th.b0 (thA ts th)) (Th.b1 (thA ts th)) (Th.lg (thA ts th)) (Th.lf (thA ts th)) (Th.pd (thA ts th)) (Th.wt (thA ts th)) ((Th.dn (thA ts th)) ++ [(AnsV.mk e v yes)]))))) (by kernel_rfl) (awith ts th (Th.st (thA ts th)) (Th.b0 (thA ts th)) (Th.b1 (thA ts th)) (Th.lg (thA ts th)) (Th.lf (thA ts th)) (Th.pd (thA ts th)) (Th.wt (thA ts th)) ((Th.dn (thA ts th)) ++ [(AnsV.mk e v yes)]) (by omega) (by omega) (by omega)) [(false = true → false = true), ((List.map thS ts) : List SV) = (List.map thS ts), (th : Int) = th, (false = true → false = true), ((m64 (Th.st (thA ts th))) : List SV) = (m64 (Th.st (thA ts th))), ((Th.b0 (thA ts th)) : Int) = (Th.b0 (thA ts th)), ((Th.b1 (thA ts th)) : Int) = (Th.b1 (thA ts th)), (false = true → false = true), ((List.map entS (Th.lg (thA ts th))) : List SV) = (List.map entS (Th.lg (thA ts th))), (false = true → false = true), ((List.map opS (Th.lf (thA ts th))) : List SV) = (List.map opS (Th.lf (thA ts th))), (false = true → false = true), ((List.map entS (Th.pd (thA ts th))) : List SV) = (List.map entS (Th.pd (thA ts th))), (Th.wt (thA ts th)) = (Th.wt (thA ts th)), (false = true → false = true), ((List.map ansS ((Th.dn (thA ts th)) ++ [(AnsV.mk e v yes)])) : List SV) = (List.map ansS ((Th.dn (thA ts th)) ++ [(AnsV.mk e v yes)]))] (by kernel_rfl) ⟨id, rfl, rfl, id, rfl, rfl, rfl, id, rfl, id, rfl, id, rfl, rfl, id, rfl, trivial⟩ (by kernel_rfl) ?_
    refine rki [] 2 5 [6, 3, 1] [2, 0] [True] ⟨trivial, trivial⟩ ?_
    refine en ?_
    refine an ?_
    refine xw_seq ?_
    refine reg ?_
    refine rki [] 3 0 [50, 49, 6, 3] [2, 0] [True] ⟨trivial, trivial⟩ ?_
    refine pc (abehi os th (by omega)) ?_
    refine rk [] 2 4 ⟨[(6, .p 2), (3, .p 0)], [(2, .cells zh 32), (0, .cells (hp W xs ys f0 f1 f2 t0 t1 t2 sz lm (List.set ts (Int.toNat th) (Th.mk (Th.st (thA ts th)) (Th.b0 (thA ts th)) (Th.b1 (thA ts th)) (Th.lg (thA ts th)) (Th.lf (thA ts th)) (Th.pd (thA ts th)) (Th.wt (thA ts th)) ((Th.dn (thA ts th)) ++ [(AnsV.mk e v yes)]))) ph scn fl (os ++ [th]) brk) 32)], 4⟩ [True] ⟨trivial, trivial⟩ ?_
    refine en ?_
    refine an ?_
    refine rgi [] 2 [6] [2] [True, True] ⟨trivial, trivial, trivial⟩ ?_
    refine xw_ret ?_
    exact br (.agg (hp W xs ys f0 f1 f2 t0 t1 t2 sz lm (List.set ts (Int.toNat th) (Th.mk (Th.st (thA ts th)) (Th.b0 (thA ts th)) (Th.b1 (thA ts th)) (Th.lg (thA ts th)) (Th.lf (thA ts th)) (Th.pd (thA ts th)) (Th.wt (thA ts th)) ((Th.dn (thA ts th)) ++ [(AnsV.mk e v yes)]))) ph scn fl (os ++ [th]) brk)) (.agg (hp W xs ys f0 f1 f2 t0 t1 t2 sz lm (List.set ts (Int.toNat th) (tN (thA ts th) (Th.lf (thA ts th)) ((Th.dn (thA ts th)) ++ [(AnsV.mk e v yes)]))) ph scn fl (os ++ [th]) brk)) (wkd [(W : Int) = W, (false = true → false = true), (m64 xs) = (m64 xs), (false = true → false = true), (m64 ys) = (m64 ys), (f0 : Int) = f0, (f1 : Int) = f1, (f2 : Int) = f2, (t0 : Int) = t0, (t1 : Int) = t1, (t2 : Int) = t2, (sz : Int) = sz, (lm : Int) = lm, (false = true → false = true), (List.map thS (List.set ts (Int.toNat th) (Th.mk (Th.st (thA ts th)) (Th.b0 (thA ts th)) (Th.b1 (thA ts th)) (Th.lg (thA ts th)) (Th.lf (thA ts th)) (Th.pd (thA ts th)) (Th.wt (thA ts th)) ((Th.dn (thA ts th)) ++ [(AnsV.mk e v yes)])))) = (List.map thS (List.set ts (Int.toNat th) (tN (thA ts th) (Th.lf (thA ts th)) ((Th.dn (thA ts th)) ++ [(AnsV.mk e v yes)])))), (ph : Int) = ph, (scn : Int) = scn, (fl : Int) = fl, (false = true → false = true), (List.map (SV.int .i64) (os ++ [th])) = (List.map (SV.int .i64) (os ++ [th])), (brk : Int) = brk] (by kernel_rfl) ⟨rfl, id, rfl, id, rfl, rfl, rfl, rfl, rfl, rfl, rfl, rfl, rfl, id, (by first | rfl | (simp [tN]; done)), rfl, rfl, rfl, id, rfl, rfl, trivial⟩) (Or.inr <| Or.inr <| ⟨(by omega), (by omega), rfl⟩)

theorem aans_2 (W : Int) (xs ys : List Int) (f0 f1 f2 t0 t1 t2 sz lm : Int) (ts : List Th) (ph scn fl : Int) (os : List Int) (brk th e v : Int) (yes : Bool) (hp0 : -9223372036854775808 ≤ W ∧ W ≤ 9223372036854775807) (hp1 : U64s xs) (hp2 : U64s ys) (hp3 : -9223372036854775808 ≤ f0 ∧ f0 ≤ 9223372036854775807) (hp4 : -9223372036854775808 ≤ f1 ∧ f1 ≤ 9223372036854775807) (hp5 : -9223372036854775808 ≤ f2 ∧ f2 ≤ 9223372036854775807) (hp6 : -9223372036854775808 ≤ t0 ∧ t0 ≤ 9223372036854775807) (hp7 : -9223372036854775808 ≤ t1 ∧ t1 ≤ 9223372036854775807) (hp8 : -9223372036854775808 ≤ t2 ∧ t2 ≤ 9223372036854775807) (hp9 : -9223372036854775808 ≤ sz ∧ sz ≤ 9223372036854775807) (hp10 : -9223372036854775808 ≤ lm ∧ lm ≤ 9223372036854775807) (hp11 : Ths ts) (hp12 : (ts.length : Int) * 144 ≤ 140737488355000) (hp13 : -9223372036854775808 ≤ ph ∧ ph ≤ 9223372036854775807) (hp14 : -9223372036854775808 ≤ scn ∧ scn ≤ 9223372036854775807) (hp15 : -9223372036854775808 ≤ fl ∧ fl ≤ 9223372036854775807) (hp16 : I64s os) (hp17 : (os.length : Int) * 8 ≤ 140737488355000) (hp18 : -9223372036854775808 ≤ brk ∧ brk ≤ 9223372036854775807) (hp19 : -9223372036854775808 ≤ th ∧ th ≤ 9223372036854775807) (hp20 : -9223372036854775808 ≤ e ∧ e ≤ 9223372036854775807) (hp21 : 0 ≤ v ∧ v ≤ 18446744073709551615) (hp22 : 0 ≤ th ∧ th < (ts.length : Int)) (hp23 : 0 < ((Th.lf (thA ts th)).length : Int)) : Pub Try.prog 16 [.agg (hp W xs ys f0 f1 f2 t0 t1 t2 sz lm ts ph scn fl os brk), .i th, .agg [.i e, .u v, .bool yes]] (fun rv => rv = .agg (hp W xs ys f0 f1 f2 t0 t1 t2 sz lm (List.set ts (Int.toNat th) (tN (thA ts th) ((Th.lf (thA ts th)).drop 1) ((Th.dn (thA ts th)) ++ [(AnsV.mk e v yes)]))) ph scn fl (os ++ [th]) brk)) := by
  refine (aans W xs ys f0 f1 f2 t0 t1 t2 sz lm ts ph scn fl os brk th e v yes hp0 hp1 hp2 hp3 hp4 hp5 hp6 hp7 hp8 hp9 hp10 hp11 hp12 hp13 hp14 hp15 hp16 hp17 hp18 hp19 hp20 hp21).mono ?_
  rintro _ (⟨g0, rfl⟩ | ⟨g0, g1, rfl⟩ | ⟨g0, g1, rfl⟩)
  all_goals first | rfl | (exfalso; first | omega | grind)

theorem awr (k h i j v t f m : Int) (hp0 : -9223372036854775808 ≤ k ∧ k ≤ 9223372036854775807) : Pub Try.prog 14 [.agg [.i k, .i h, .i i, .i j, .u v, .i t, .i f, .u m]] (fun rv => rv = .bool (wrB k)) := by
 refine pub_of TT_ok Try.func14 rfl (by decide) (Nat.le_of_ble_eq_true (by kernel_rfl)) (by kernel_rfl) ?_
 refine rgi [] 2 [2, 1] [0] [] trivial ?_
 refine xw_seq ?_
 refine reg ?_
 refine rki [(2, .bool (k == 4))] 4 0 [6, 2, 1] [0] [True, sm (k == 4)] ⟨trivial, rfl, trivial⟩ ?_
 refine splitr 6 (x := (k == 4)) (by kernel_rfl) (fun h0 => ?_) (fun h0 => ?_)
 ·
  replace h0 : k = 4 := eq_of_beq h0
  refine rki [] 15 4 [2] [] [True, True, True] ⟨trivial, trivial, trivial, trivial⟩ ?_
  refine en ?_
  refine an ?_
  refine xw_ret ?_
  exact br (.t) (.bool (wrB k)) (wkd [true = (wrB k)] (by kernel_rfl) ⟨(by symm; unfold wrB; first | (apply decide_eq_true; omega) | (apply decide_eq_false; omega) | (rw [Bool.eq_iff_iff]; simp; omega)), trivial⟩) rfl
 ·
  replace h0 : k ≠ 4 := ne_of_beq_false h0
  refine rki [(6, .bool (k == 5))] 5 4 [11, 2, 1] [0] [True, sm (k == 5), True] ⟨trivial, rfl, trivial, trivial⟩ ?_
  refine splitr 11 (x := (k == 5)) (by kernel_rfl) (fun h1 => ?_) (fun h1 => ?_)
  ·
   replace h1 : k = 5 := eq_of_beq h1
   refine rk [] 10 9 ⟨[(2, .t)], [], 1⟩ [True, True] ⟨trivial, trivial, trivial⟩ ?_
   refine en ?_
   refine an ?_
   refine xw_ret ?_
   exact br (.t) (.bool (wrB k)) (wkd [true = (wrB k)] (by kernel_rfl) ⟨(by symm; unfold wrB; first | (apply decide_eq_true; omega) | (apply decide_eq_false; omega) | (rw [Bool.eq_iff_iff]; simp; omega)), trivial⟩) rfl
  ·
   replace h1 : k ≠ 5 := ne_of_beq_false h1
   refine rk [(11, .bool (k == 6))] 5 9 ⟨[(16, .bool (k == 6)), (2, .f), (1, .p 0)], [(0, .cells [.i k, .i h, .i i, .i j, .u v, .i t, .i f, .u m] 51)], 1⟩ [True, sm (k == 6), True] ⟨trivial, rfl, trivial, trivial⟩ ?_
   refine splitr 16 (x := (k == 6)) (by kernel_rfl) (fun h2 => ?_) (fun h2 => ?_)
   ·
    replace h2 : k = 6 := eq_of_beq h2
    refine rki [] 5 14 [2] [] [True] ⟨trivial, trivial⟩ ?_
    refine en ?_
    refine an ?_
    refine xw_ret ?_
    exact br (.t) (.bool (wrB k)) (wkd [true = (wrB k)] (by kernel_rfl) ⟨(by symm; unfold wrB; first | (apply decide_eq_true; omega) | (apply decide_eq_false; omega) | (rw [Bool.eq_iff_iff]; simp; omega)), trivial⟩) rfl
   ·
    replace h2 : k ≠ 6 := ne_of_beq_false h2
    refine rki [(16, .bool (k == 7))] 5 14 [2] [] [True, sm (k == 7), True] ⟨trivial, rfl, trivial, trivial⟩ ?_
    refine en ?_
    refine an ?_
    refine xw_ret ?_
    by_cases h3 : k = 7
    ·
     exact br (.bool (k == 7)) (.bool (wrB k)) (wkd [(k == 7) = (wrB k)] (by kernel_rfl) ⟨(by symm; unfold wrB; first | (apply decide_eq_true; omega) | (apply decide_eq_false; omega) | (rw [Bool.eq_iff_iff]; simp; omega)), trivial⟩) rfl
    ·
     exact br (.bool (k == 7)) (.bool (wrB k)) (wkd [(k == 7) = (wrB k)] (by kernel_rfl) ⟨(by symm; unfold wrB; first | (apply decide_eq_true; omega) | (apply decide_eq_false; omega) | (rw [Bool.eq_iff_iff]; simp; omega)), trivial⟩) rfl

set_option maxHeartbeats 8000000 in
theorem acan (W : Int) (xs ys : List Int) (f0 f1 f2 t0 t1 t2 sz lm : Int) (ts : List Th) (ph scn fl : Int) (os : List Int) (brk th : Int) (hp0 : -9223372036854775808 ≤ W ∧ W ≤ 9223372036854775807) (hp1 : U64s xs) (hp2 : U64s ys) (hp3 : -9223372036854775808 ≤ f0 ∧ f0 ≤ 9223372036854775807) (hp4 : -9223372036854775808 ≤ f1 ∧ f1 ≤ 9223372036854775807) (hp5 : -9223372036854775808 ≤ f2 ∧ f2 ≤ 9223372036854775807) (hp6 : -9223372036854775808 ≤ t0 ∧ t0 ≤ 9223372036854775807) (hp7 : -9223372036854775808 ≤ t1 ∧ t1 ≤ 9223372036854775807) (hp8 : -9223372036854775808 ≤ t2 ∧ t2 ≤ 9223372036854775807) (hp9 : -9223372036854775808 ≤ sz ∧ sz ≤ 9223372036854775807) (hp10 : -9223372036854775808 ≤ lm ∧ lm ≤ 9223372036854775807) (hp11 : Ths ts) (hp12 : (ts.length : Int) * 144 ≤ 140737488355000) (hp13 : -9223372036854775808 ≤ ph ∧ ph ≤ 9223372036854775807) (hp14 : -9223372036854775808 ≤ scn ∧ scn ≤ 9223372036854775807) (hp15 : -9223372036854775808 ≤ fl ∧ fl ≤ 9223372036854775807) (hp16 : I64s os) (hp17 : (os.length : Int) * 8 ≤ 140737488355000) (hp18 : -9223372036854775808 ≤ brk ∧ brk ≤ 9223372036854775807) (hp19 : -9223372036854775808 ≤ th ∧ th ≤ 9223372036854775807) : Pub Try.prog 12 [.agg (hp W xs ys f0 f1 f2 t0 t1 t2 sz lm ts ph scn fl os brk), .i th] (fun rv => (((canB lm ph brk ts th) = false) ∧ rv = .f) ∨ (((canB lm ph brk ts th) = true) ∧ rv = .t)) := by
 refine pub_of TT_ok Try.func12 rfl (by decide) (Nat.le_of_ble_eq_true (by kernel_rfl)) (by kernel_rfl) ?_
 refine rgi [] 2 [4, 2, 1] [0] [] trivial ?_
 refine xw_seq ?_
 refine xw_seq ?_
 refine reg ?_
 refine rki [(1, .bool (decide (th < 0)))] 3 0 [8, 4, 2, 1] [0] [sm (decide (th < 0))] ⟨rfl, trivial⟩ ?_
 refine splitr 8 (x := (decide (th < 0))) (by kernel_rfl) (fun h0 => ?_) (fun h0 => ?_)
 ·
  replace h0 : th < 0 := of_decide_eq_true h0
  refine rki [] 11 3 [19, 4, 2, 1] [0] [True, True] ⟨trivial, trivial, trivial⟩ ?_
  refine en ?_
  refine an ?_
  refine ct ?_
  refine rg [] 1 ⟨[(4, .f), (2, .p 0), (1, .i th)], [(0, .cells (hp W xs ys f0 f1 f2 t0 t1 t2 sz lm ts ph scn fl os brk) 32)], 1⟩ [] trivial ?_
  refine xw_ret ?_
  refine an_ret ?_
  exact bs (.f) (Or.inl <| ⟨(by first | rfl | exact decide_eq_true (by omega) | exact decide_eq_false (by omega) | exact (can_1 (by omega)).symm | exact (can_2 (by omega)).symm | exact ((nx_1 (by omega)).trans (can_n (by omega) (by omega) (by omega))).symm | exact ((nx_2 ‹_›).trans (can_n (by omega) (by omega) (by omega))).symm | exact ((nx_3 (by omega)).trans (can_n (by omega) (by omega) (by omega))).symm | exact ((decide_eq_false (by omega)).symm.trans ((nx_6 (by omega) ‹_› (by omega) (of_decide_eq_true ‹wrB _ = true›) (by omega)).trans (can_n (by omega) (by omega) (by omega)))).symm | exact (can_3 (by omega) (by omega) (by omega)).symm | exact ((nx_4 (by omega) ‹_› (by omega) (of_decide_eq_false ‹wrB _ = false›)).trans (can_n (by omega) (by omega) (by omega))).symm | exact ((nx_5 (by omega) ‹_› (by omega) (by omega)).trans (can_n (by omega) (by omega) (by omega))).symm | exact ((decide_eq_true (by omega)).symm.trans ((nx_6 (by omega) ‹_› (by omega) (of_decide_eq_true ‹wrB _ = true›) (by omega)).trans (can_n (by omega) (by omega) (by omega)))).symm), rfl⟩)
 ·
  replace h0 : ¬ (th < 0) := of_decide_eq_false h0
  refine rki [(6, .i ((ts).length : Int)), (7, .bool (decide (((ts).length : Int) ≤ th)))] 7 3 [15, 4, 2, 1] [0] [True, ((((List.map thS ts)).length : Nat) : Int) = ((ts).length : Int), sm (decide (((ts).length : Int) ≤ th)), True] ⟨trivial, (by simp), rfl, trivial, trivial⟩ ?_
  refine splitr 15 (x := (decide (((ts).length : Int) ≤ th))) (by kernel_rfl) (fun h1 => ?_) (fun h1 => ?_)
  ·
   replace h1 : (ts.length : Int) ≤ th := of_decide_eq_true h1
   refine rk [] 4 10 ⟨[(19, .t), (4, .f), (2, .p 0), (1, .i th)], [(0, .cells (hp W xs ys f0 f1 f2 t0 t1 t2 sz lm ts ph scn fl os brk) 32)], 1⟩ [True] ⟨trivial, trivial⟩ ?_
   refine en ?_
   refine an ?_
   refine ct ?_
   refine rgi [] 1 [4, 2, 1] [0] [] trivial ?_
   refine xw_ret ?_
   refine an_ret ?_
   exact bs (.f) (Or.inl <| ⟨(by first | rfl | exact decide_eq_true (by omega) | exact decide_eq_false (by omega) | exact (can_1 (by omega)).symm | exact (can_2 (by omega)).symm | exact ((nx_1 (by omega)).trans (can_n (by omega) (by omega) (by omega))).symm | exact ((nx_2 ‹_›).trans (can_n (by omega) (by omega) (by omega))).symm | exact ((nx_3 (by omega)).trans (can_n (by omega) (by omega) (by omega))).symm | exact ((decide_eq_false (by omega)).symm.trans ((nx_6 (by omega) ‹_› (by omega) (of_decide_eq_true ‹wrB _ = true›) (by omega)).trans (can_n (by omega) (by omega) (by omega)))).symm | exact (can_3 (by omega) (by omega) (by omega)).symm | exact ((nx_4 (by omega) ‹_› (by omega) (of_decide_eq_false ‹wrB _ = false›)).trans (can_n (by omega) (by omega) (by omega))).symm | exact ((nx_5 (by omega) ‹_› (by omega) (by omega)).trans (can_n (by omega) (by omega) (by omega))).symm | exact ((decide_eq_true (by omega)).symm.trans ((nx_6 (by omega) ‹_› (by omega) (of_decide_eq_true ‹wrB _ = true›) (by omega)).trans (can_n (by omega) (by omega) (by omega)))).symm), rfl⟩)
  ·
   replace h1 : ¬ ((ts.length : Int) ≤ th) := of_decide_eq_false h1
   refine rk [(12, .bool (brk != 0))] 4 10 ⟨[(19, .bool (brk != 0)), (4, .f), (2, .p 0), (1, .i th)], [(0, .cells (hp W xs ys f0 f1 f2 t0 t1 t2 sz lm ts ph scn fl os brk) 32)], 1⟩ [True, sm (brk != 0), True] ⟨trivial, rfl, trivial, trivial⟩ ?_
   refine en ?_
   refine an ?_
   refine xw_cond (b := (brk != 0)) (by kernel_rfl) (fun h2 => ?_) (fun h2 => ?_)
   ·
    replace h2 : brk ≠ 0 := bne_iff_ne.1 h2
    refine rgi [] 1 [4, 2, 1] [0] [] trivial ?_
    refine xw_ret ?_
    refine an_ret ?_
    exact bs (.f) (Or.inl <| ⟨(by first | rfl | exact decide_eq_true (by omega) | exact decide_eq_false (by omega) | exact (can_1 (by omega)).symm | exact (can_2 (by omega)).symm | exact ((nx_1 (by omega)).trans (can_n (by omega) (by omega) (by omega))).symm | exact ((nx_2 ‹_›).trans (can_n (by omega) (by omega) (by omega))).symm | exact ((nx_3 (by omega)).trans (can_n (by omega) (by omega) (by omega))).symm | exact ((decide_eq_false (by omega)).symm.trans ((nx_6 (by omega) ‹_› (by omega) (of_decide_eq_true ‹wrB _ = true›) (by omega)).trans (can_n (by omega) (by omega) (by omega)))).symm | exact (can_3 (by omega) (by omega) (by omega)).symm | exact ((nx_4 (by omega) ‹_› (by omega) (of_decide_eq_false ‹wrB _ = false›)).trans (can_n (by omega) (by omega) (by omega))).symm | exact ((nx_5 (by omega) ‹_› (by omega) (by omega)).trans (can_n (by omega) (by omega) (by omega))).symm | exact ((decide_eq_true (by omega)).symm.trans ((nx_6 (by omega) ‹_› (by omega) (of_decide_eq_true ‹wrB _ = true›) (by omega)).trans (can_n (by omega) (by omega) (by omega)))).symm), rfl⟩)
   ·
    replace h2 : brk = 0 := bne_eq_false_iff_eq.1 h2
    refine xw_skip ?_
    refine an ?_
    refine xw_seq ?_
    refine reg ?_
    refine rki [(3, .agg (tc (thA ts th)))] 4 0 [23, 4, 2] [0] [True, (0 : Int) ≤ th ∧ th < ((((List.map thS ts)).length : Nat) : Int) ∧ ((List.map thS ts))[(th : Int).toNat]? = some (.agg (tc (thA ts th)))] ⟨trivial, (ix_th (by omega) (by first | omega | (simp only [len_st]; omega) | (simp; done) | (simp; omega) | (simp [len_st, len_stx, len_sty, len_zx, len_zy]; omega))), trivial⟩ ?_
    have h3 : U64s (Th.st (thA ts th)) := (Ths.at (by first | assumption | exact U64s.st (by assumption) _ (by omega)) _).1
    have h4 : ((Th.st (thA ts th)).length : Int) * 8 ≤ 140737488355000 := (Ths.at (by first | assumption | exact U64s.st (by assumption) _ (by omega)) _).2.1
    have h5 : (-9223372036854775808 ≤ (Th.b0 (thA ts th)) ∧ (Th.b0 (thA ts th)) ≤ 9223372036854775807) := (Ths.at (by first | assumption | exact U64s.st (by assumption) _ (by omega)) _).2.2.1
    have h6 : (-9223372036854775808 ≤ (Th.b1 (thA ts th)) ∧ (Th.b1 (thA ts th)) ≤ 9223372036854775807) := (Ths.at (by first | assumption | exact U64s.st (by assumption) _ (by omega)) _).2.2.2.1
    have h7 : Ents (Th.lg (thA ts th)) := (Ths.at (by first | assumption | exact U64s.st (by assumption) _ (by omega)) _).2.2.2.2.1
    have h8 : ((Th.lg (thA ts th)).length : Int) * 16 ≤ 140737488355000 := (Ths.at (by first | assumption | exact U64s.st (by assumption) _ (by omega)) _).2.2.2.2.2.1
    have h9 : Ops (Th.lf (thA ts th)) := (Ths.at (by first | assumption | exact U64s.st (by assumption) _ (by omega)) _).2.2.2.2.2.2.1
    have h10 : ((Th.lf (thA ts th)).length : Int) * 64 ≤ 140737488355000 := (Ths.at (by first | assumption | exact U64s.st (by assumption) _ (by omega)) _).2.2.2.2.2.2.2.1
    have h11 : Ents (Th.pd (thA ts th)) := (Ths.at (by first | assumption | exact U64s.st (by assumption) _ (by omega)) _).2.2.2.2.2.2.2.2.1
    have h12 : ((Th.pd (thA ts th)).length : Int) * 16 ≤ 140737488355000 := (Ths.at (by first | assumption | exact U64s.st (by assumption) _ (by omega)) _).2.2.2.2.2.2.2.2.2.1
    have h13 : Anss (Th.dn (thA ts th)) := (Ths.at (by first | assumption | exact U64s.st (by assumption) _ (by omega)) _).2.2.2.2.2.2.2.2.2.2.1
    have h14 : ((Th.dn (thA ts th)).length : Int) * 24 ≤ 140737488355000 := (Ths.at (by first | assumption | exact U64s.st (by assumption) _ (by omega)) _).2.2.2.2.2.2.2.2.2.2.2
    refine rki [] 3 4 [5, 4, 2] [1, 0] [True, True] ⟨trivial, trivial, trivial⟩ ?_
    refine en ?_
    refine an ?_
    refine xw_seq ?_
    refine xw_block ?_
    refine rgi [(2, .i (((Th.pd (thA ts th))).length : Int)), (3, .bool (decide (0 < (((Th.pd (thA ts th))).length : Int))))] 5 [25, 5, 4, 2] [1, 0] [True, ((((List.map entS (Th.pd (thA ts th)))).length : Nat) : Int) = (((Th.pd (thA ts th))).length : Int), sm (decide (0 < (((Th.pd (thA ts th))).length : Int)))] ⟨trivial, (by simp), rfl, trivial⟩ ?_
    refine xw_cond (b := (decide (0 < (((Th.pd (thA ts th))).length : Int)))) (by kernel_rfl) (fun h15 => ?_) (fun h15 => ?_)
    ·
     replace h15 : 0 < ((Th.pd (thA ts th)).length : Int) := of_decide_eq_true h15
     refine rg [] 1 ⟨[(4, .t), (5, .p 1), (2, .p 0)], [(1, .cells (tc (thA ts th)) 44), (0, .cells (hp W xs ys f0 f1 f2 t0 t1 t2 sz lm ts ph scn fl os brk) 32)], 2⟩ [] trivial ?_
     refine xw_ret ?_
     refine ib_ret ?_
     refine an_ret ?_
     exact bs (.t) (Or.inr <| ⟨(by first | rfl | exact decide_eq_true (by omega) | exact decide_eq_false (by omega) | exact (can_1 (by omega)).symm | exact (can_2 (by omega)).symm | exact ((nx_1 (by omega)).trans (can_n (by omega) (by omega) (by omega))).symm | exact ((nx_2 ‹_›).trans (can_n (by omega) (by omega) (by omega))).symm | exact ((nx_3 (by omega)).trans (can_n (by omega) (by omega) (by omega))).symm | exact ((decide_eq_false (by omega)).symm.trans ((nx_6 (by omega) ‹_› (by omega) (of_decide_eq_true ‹wrB _ = true›) (by omega)).trans (can_n (by omega) (by omega) (by omega)))).symm | exact (can_3 (by omega) (by omega) (by omega)).symm | exact ((nx_4 (by omega) ‹_› (by omega) (of_decide_eq_false ‹wrB _ = false›)).trans (can_n (by omega) (by omega) (by omega))).symm | exact ((nx_5 (by omega) ‹_› (by omega) (by omega)).trans (can_n (by omega) (by omega) (by omega))).symm | exact ((decide_eq_true (by omega)).symm.trans ((nx_6 (by omega) ‹_› (by omega) (of_decide_eq_true ‹wrB _ = true›) (by omega)).trans (can_n (by omega) (by omega) (by omega)))).symm), rfl⟩)
    ·
     replace h15 : ¬ (0 < ((Th.pd (thA ts th)).length : Int)) := of_decide_eq_false h15
     refine xw_seq ?_
     refine reg ?_
     refine rk [(2, .i (((Th.lf (thA ts th))).length : Int)), (3, .bool ((((Th.lf (thA ts th))).length : Int) == 0))] 5 0 ⟨[(35, .bool ((((Th.lf (thA ts th))).length : Int) == 0)), (5, .p 1), (4, .f), (2, .p 0)], [(1, .cells (tc (thA ts th)) 44), (0, .cells (hp W xs ys f0 f1 f2 t0 t1 t2 sz lm ts ph scn fl os brk) 32)], 2⟩ [True, ((((List.map opS (Th.lf (thA ts th)))).length : Nat) : Int) = (((Th.lf (thA ts th))).length : Int), sm ((((Th.lf (thA ts th))).length : Int) == 0)] ⟨trivial, (by simp), rfl, trivial⟩ ?_
     refine splitr 35 (x := ((((Th.lf (thA ts th))).length : Int) == 0)) (by kernel_rfl) (fun h16 => ?_) (fun h16 => ?_)
     ·
      replace h16 : ((Th.lf (thA ts th)).length : Int) = 0 := eq_of_beq h16
      refine rki [] 9 5 [30, 5, 4, 2] [1, 0] [True, True] ⟨trivial, trivial, trivial⟩ ?_
      refine en ?_
      refine an ?_
      refine ct ?_
      refine rgi [] 1 [4, 5, 2] [1, 0] [] trivial ?_
      refine xw_ret ?_
      refine ib_ret ?_
      refine an_ret ?_
      exact bs (.f) (Or.inl <| ⟨(by first | rfl | exact decide_eq_true (by omega) | exact decide_eq_false (by omega) | exact (can_1 (by omega)).symm | exact (can_2 (by omega)).symm | exact ((nx_1 (by omega)).trans (can_n (by omega) (by omega) (by omega))).symm | exact ((nx_2 ‹_›).trans (can_n (by omega) (by omega) (by omega))).symm | exact ((nx_3 (by omega)).trans (can_n (by omega) (by omega) (by omega))).symm | exact ((decide_eq_false (by omega)).symm.trans ((nx_6 (by omega) ‹_› (by omega) (of_decide_eq_true ‹wrB _ = true›) (by omega)).trans (can_n (by omega) (by omega) (by omega)))).symm | exact (can_3 (by omega) (by omega) (by omega)).symm | exact ((nx_4 (by omega) ‹_› (by omega) (of_decide_eq_false ‹wrB _ = false›)).trans (can_n (by omega) (by omega) (by omega))).symm | exact ((nx_5 (by omega) ‹_› (by omega) (by omega)).trans (can_n (by omega) (by omega) (by omega))).symm | exact ((decide_eq_true (by omega)).symm.trans ((nx_6 (by omega) ‹_› (by omega) (of_decide_eq_true ‹wrB _ = true›) (by omega)).trans (can_n (by omega) (by omega) (by omega)))).symm), rfl⟩)
     ·
      replace h16 : ((Th.lf (thA ts th)).length : Int) ≠ 0 := ne_of_beq_false h16
      refine rki [] 4 5 [39, 5, 4, 2] [1, 0] [True, True] ⟨trivial, trivial, trivial⟩ ?_
      refine splitr 39 (x := (Th.wt (thA ts th))) (by kernel_rfl) (fun h17 => ?_) (fun h17 => ?_)
      ·
       replace h17 : Th.wt (thA ts th) = true := h17
       refine rki [] 5 9 [30, 5, 4, 2] [1, 0] [True] ⟨trivial, trivial⟩ ?_
       refine en ?_
       refine an ?_
       refine ct ?_
       refine rgi [] 1 [4, 5, 2] [1, 0] [] trivial ?_
       refine xw_ret ?_
       refine ib_ret ?_
       refine an_ret ?_
       exact bs (.f) (Or.inl <| ⟨(by first | rfl | exact decide_eq_true (by omega) | exact decide_eq_false (by omega) | exact (can_1 (by omega)).symm | exact (can_2 (by omega)).symm | exact ((nx_1 (by omega)).trans (can_n (by omega) (by omega) (by omega))).symm | exact ((nx_2 ‹_›).trans (can_n (by omega) (by omega) (by omega))).symm | exact ((nx_3 (by omega)).trans (can_n (by omega) (by omega) (by omega))).symm | exact ((decide_eq_false (by omega)).symm.trans ((nx_6 (by omega) ‹_› (by omega) (of_decide_eq_true ‹wrB _ = true›) (by omega)).trans (can_n (by omega) (by omega) (by omega)))).symm | exact (can_3 (by omega) (by omega) (by omega)).symm | exact ((nx_4 (by omega) ‹_› (by omega) (of_decide_eq_false ‹wrB _ = false›)).trans (can_n (by omega) (by omega) (by omega))).symm | exact ((nx_5 (by omega) ‹_› (by omega) (by omega)).trans (can_n (by omega) (by omega) (by omega))).symm | exact ((decide_eq_true (by omega)).symm.trans ((nx_6 (by omega) ‹_› (by omega) (of_decide_eq_true ‹wrB _ = true›) (by omega)).trans (can_n (by omega) (by omega) (by omega)))).symm), rfl⟩)
      ·
       replace h17 : Th.wt (thA ts th) = false := h17
       refine rki [(11, .bool (ph == 2))] 5 9 [30, 5, 4, 2] [1, 0] [True, sm (ph == 2), True] ⟨trivial, rfl, trivial, trivial⟩ ?_
       refine en ?_
       refine an ?_
       refine xw_cond (b := (ph == 2)) (by kernel_rfl) (fun h18 => ?_) (fun h18 => ?_)
       ·
        replace h18 : ph = 2 := eq_of_beq h18
        refine rgi [] 1 [4, 5, 2] [1, 0] [] trivial ?_
        refine xw_ret ?_
        refine ib_ret ?_
        refine an_ret ?_
        exact bs (.f) (Or.inl <| ⟨(by first | rfl | exact decide_eq_true (by omega) | exact decide_eq_false (by omega) | exact (can_1 (by omega)).symm | exact (can_2 (by omega)).symm | exact ((nx_1 (by omega)).trans (can_n (by omega) (by omega) (by omega))).symm | exact ((nx_2 ‹_›).trans (can_n (by omega) (by omega) (by omega))).symm | exact ((nx_3 (by omega)).trans (can_n (by omega) (by omega) (by omega))).symm | exact ((decide_eq_false (by omega)).symm.trans ((nx_6 (by omega) ‹_› (by omega) (of_decide_eq_true ‹wrB _ = true›) (by omega)).trans (can_n (by omega) (by omega) (by omega)))).symm | exact (can_3 (by omega) (by omega) (by omega)).symm | exact ((nx_4 (by omega) ‹_› (by omega) (of_decide_eq_false ‹wrB _ = false›)).trans (can_n (by omega) (by omega) (by omega))).symm | exact ((nx_5 (by omega) ‹_› (by omega) (by omega)).trans (can_n (by omega) (by omega) (by omega))).symm | exact ((decide_eq_true (by omega)).symm.trans ((nx_6 (by omega) ‹_› (by omega) (of_decide_eq_true ‹wrB _ = true›) (by omega)).trans (can_n (by omega) (by omega) (by omega)))).symm), rfl⟩)
       ·
        replace h18 : ph ≠ 2 := ne_of_beq_false h18
        refine xw_skip ?_
        refine ib ?_
        refine an ?_
        refine xw_seq ?_
        refine reg ?_
        refine rki [(2, .agg (oc (o0 ts th)))] 3 0 [46, 5, 4, 2] [1, 0] [True, (0 : Int) ≤ 0 ∧ 0 < ((((List.map opS (Th.lf (thA ts th)))).length : Nat) : Int) ∧ ((List.map opS (Th.lf (thA ts th))))[(0 : Int).toNat]? = some (.agg (oc (o0 ts th)))] ⟨trivial, (ix_op (by omega) (by first | omega | (simp only [len_st]; omega) | (simp; done) | (simp; omega) | (simp [len_st, len_stx, len_sty, len_zx, len_zy]; omega))), trivial⟩ ?_
        have h19 : (-9223372036854775808 ≤ (OpV.k (o0 ts th)) ∧ (OpV.k (o0 ts th)) ≤ 9223372036854775807) := (Ops.at (by first | assumption | exact U64s.st (by assumption) _ (by omega)) _).1
        have h20 : (-9223372036854775808 ≤ (OpV.h (o0 ts th)) ∧ (OpV.h (o0 ts th)) ≤ 9223372036854775807) := (Ops.at (by first | assumption | exact U64s.st (by assumption) _ (by omega)) _).2.1
        have h21 : (-9223372036854775808 ≤ (OpV.i (o0 ts th)) ∧ (OpV.i (o0 ts th)) ≤ 9223372036854775807) := (Ops.at (by first | assumption | exact U64s.st (by assumption) _ (by omega)) _).2.2.1
        have h22 : (-9223372036854775808 ≤ (OpV.j (o0 ts th)) ∧ (OpV.j (o0 ts th)) ≤ 9223372036854775807) := (Ops.at (by first | assumption | exact U64s.st (by assumption) _ (by omega)) _).2.2.2.1
        have h23 : (0 ≤ (OpV.v (o0 ts th)) ∧ (OpV.v (o0 ts th)) ≤ 18446744073709551615) := (Ops.at (by first | assumption | exact U64s.st (by assumption) _ (by omega)) _).2.2.2.2.1
        have h24 : (-9223372036854775808 ≤ (OpV.t (o0 ts th)) ∧ (OpV.t (o0 ts th)) ≤ 9223372036854775807) := (Ops.at (by first | assumption | exact U64s.st (by assumption) _ (by omega)) _).2.2.2.2.2.1
        have h25 : (-9223372036854775808 ≤ (OpV.l (o0 ts th)) ∧ (OpV.l (o0 ts th)) ≤ 9223372036854775807) := (Ops.at (by first | assumption | exact U64s.st (by assumption) _ (by omega)) _).2.2.2.2.2.2.1
        have h26 : (0 ≤ (OpV.m (o0 ts th)) ∧ (OpV.m (o0 ts th)) ≤ 18446744073709551615) := (Ops.at (by first | assumption | exact U64s.st (by assumption) _ (by omega)) _).2.2.2.2.2.2.2
        refine rk [] 1 3 ⟨[(47, .agg (oc (o0 ts th))), (5, .p 1), (4, .f), (2, .p 0)], [(1, .cells (tc (thA ts th)) 44), (0, .cells (hp W xs ys f0 f1 f2 t0 t1 t2 sz lm ts ph scn fl os brk) 32)], 2⟩ [True] ⟨trivial, trivial⟩ ?_
        refine pc (awr (OpV.k (o0 ts th)) (OpV.h (o0 ts th)) (OpV.i (o0 ts th)) (OpV.j (o0 ts th)) (OpV.v (o0 ts th)) (OpV.t (o0 ts th)) (OpV.l (o0 ts th)) (OpV.m (o0 ts th)) ‹_›) ?_
        refine rki [] 2 5 [50, 5, 4, 2] [1, 0] [] trivial ?_
        refine splitr 50 (x := (!(wrB (OpV.k (o0 ts th))))) (by kernel_rfl) (fun h27 => ?_) (fun h27 => ?_)
        ·
         replace h27 : wrB (OpV.k (o0 ts th)) = false := by first | (simp; done) | simpa using h27 | (simp at h27; omega)
         refine rki [] 13 7 [4] [] [True, True] ⟨trivial, trivial, trivial⟩ ?_
         refine en ?_
         refine an ?_
         refine xw_ret ?_
         exact bs (.t) (Or.inr <| ⟨(by first | rfl | exact decide_eq_true (by omega) | exact decide_eq_false (by omega) | exact (can_1 (by omega)).symm | exact (can_2 (by omega)).symm | exact ((nx_1 (by omega)).trans (can_n (by omega) (by omega) (by omega))).symm | exact ((nx_2 ‹_›).trans (can_n (by omega) (by omega) (by omega))).symm | exact ((nx_3 (by omega)).trans (can_n (by omega) (by omega) (by omega))).symm | exact ((decide_eq_false (by omega)).symm.trans ((nx_6 (by omega) ‹_› (by omega) (of_decide_eq_true ‹wrB _ = true›) (by omega)).trans (can_n (by omega) (by omega) (by omega)))).symm | exact (can_3 (by omega) (by omega) (by omega)).symm | exact ((nx_4 (by omega) ‹_› (by omega) (of_decide_eq_false ‹wrB _ = false›)).trans (can_n (by omega) (by omega) (by omega))).symm | exact ((nx_5 (by omega) ‹_› (by omega) (by omega)).trans (can_n (by omega) (by omega) (by omega))).symm | exact ((decide_eq_true (by omega)).symm.trans ((nx_6 (by omega) ‹_› (by omega) (of_decide_eq_true ‹wrB _ = true›) (by omega)).trans (can_n (by omega) (by omega) (by omega)))).symm), rfl⟩)
        ·
         replace h27 : wrB (OpV.k (o0 ts th)) = true := by first | (simp; done) | simpa using h27
         refine rki [(9, .bool (ph != 1))] 5 7 [55, 5, 4, 2] [1, 0] [True, sm (ph != 1), True] ⟨trivial, rfl, trivial, trivial⟩ ?_
         refine splitr 55 (x := (ph != 1)) (by kernel_rfl) (fun h28 => ?_) (fun h28 => ?_)
         ·
          replace h28 : ph ≠ 1 := bne_iff_ne.1 h28
          refine rki [] 8 12 [4] [] [True] ⟨trivial, trivial⟩ ?_
          refine en ?_
          refine an ?_
          refine xw_ret ?_
          exact bs (.t) (Or.inr <| ⟨(by first | rfl | exact decide_eq_true (by omega) | exact decide_eq_false (by omega) | exact (can_1 (by omega)).symm | exact (can_2 (by omega)).symm | exact ((nx_1 (by omega)).trans (can_n (by omega) (by omega) (by omega))).symm | exact ((nx_2 ‹_›).trans (can_n (by omega) (by omega) (by omega))).symm | exact ((nx_3 (by omega)).trans (can_n (by omega) (by omega) (by omega))).symm | exact ((decide_eq_false (by omega)).symm.trans ((nx_6 (by omega) ‹_› (by omega) (of_decide_eq_true ‹wrB _ = true›) (by omega)).trans (can_n (by omega) (by omega) (by omega)))).symm | exact (can_3 (by omega) (by omega) (by omega)).symm | exact ((nx_4 (by omega) ‹_› (by omega) (of_decide_eq_false ‹wrB _ = false›)).trans (can_n (by omega) (by omega) (by omega))).symm | exact ((nx_5 (by omega) ‹_› (by omega) (by omega)).trans (can_n (by omega) (by omega) (by omega))).symm | exact ((decide_eq_true (by omega)).symm.trans ((nx_6 (by omega) ‹_› (by omega) (of_decide_eq_true ‹wrB _ = true›) (by omega)).trans (can_n (by omega) (by omega) (by omega)))).symm), rfl⟩)
         ·
          replace h28 : ph = 1 := bne_eq_false_iff_eq.1 h28
          refine rki [(14, .i (((Th.lg (thA ts th))).length : Int)), (17, .bool (decide ((((Th.lg (thA ts th))).length : Int) < lm)))] 8 12 [4] [] [True, ((((List.map entS (Th.lg (thA ts th)))).length : Nat) : Int) = (((Th.lg (thA ts th))).length : Int), True, sm (decide ((((Th.lg (thA ts th))).length : Int) < lm)), True] ⟨trivial, (by simp), trivial, rfl, trivial, trivial⟩ ?_
          refine en ?_
          refine an ?_
          refine xw_ret ?_
          by_cases h29 : ((Th.lg (thA ts th)).length : Int) < lm
          ·
           exact br (.bool (decide ((((Th.lg (thA ts th))).length : Int) < lm))) (.t) (wkd [(decide ((((Th.lg (thA ts th))).length : Int) < lm)) = true] (by kernel_rfl) ⟨(by first | rfl | exact decide_eq_true (by omega) | exact decide_eq_false (by omega) | exact (can_1 (by omega)).symm | exact (can_2 (by omega)).symm | exact ((nx_1 (by omega)).trans (can_n (by omega) (by omega) (by omega))).symm | exact ((nx_2 ‹_›).trans (can_n (by omega) (by omega) (by omega))).symm | exact ((nx_3 (by omega)).trans (can_n (by omega) (by omega) (by omega))).symm | exact ((decide_eq_false (by omega)).symm.trans ((nx_6 (by omega) ‹_› (by omega) (of_decide_eq_true ‹wrB _ = true›) (by omega)).trans (can_n (by omega) (by omega) (by omega)))).symm | exact (can_3 (by omega) (by omega) (by omega)).symm | exact ((nx_4 (by omega) ‹_› (by omega) (of_decide_eq_false ‹wrB _ = false›)).trans (can_n (by omega) (by omega) (by omega))).symm | exact ((nx_5 (by omega) ‹_› (by omega) (by omega)).trans (can_n (by omega) (by omega) (by omega))).symm | exact ((decide_eq_true (by omega)).symm.trans ((nx_6 (by omega) ‹_› (by omega) (of_decide_eq_true ‹wrB _ = true›) (by omega)).trans (can_n (by omega) (by omega) (by omega)))).symm), trivial⟩) (Or.inr <| ⟨(by first | rfl | exact decide_eq_true (by omega) | exact decide_eq_false (by omega) | exact (can_1 (by omega)).symm | exact (can_2 (by omega)).symm | exact ((nx_1 (by omega)).trans (can_n (by omega) (by omega) (by omega))).symm | exact ((nx_2 ‹_›).trans (can_n (by omega) (by omega) (by omega))).symm | exact ((nx_3 (by omega)).trans (can_n (by omega) (by omega) (by omega))).symm | exact ((decide_eq_false (by omega)).symm.trans ((nx_6 (by omega) ‹_› (by omega) (of_decide_eq_true ‹wrB _ = true›) (by omega)).trans (can_n (by omega) (by omega) (by omega)))).symm | exact (can_3 (by omega) (by omega) (by omega)).symm | exact ((nx_4 (by omega) ‹_› (by omega) (of_decide_eq_false ‹wrB _ = false›)).trans (can_n (by omega) (by omega) (by omega))).symm | exact ((nx_5 (by omega) ‹_› (by omega) (by omega)).trans (can_n (by omega) (by omega) (by omega))).symm | exact ((decide_eq_true (by omega)).symm.trans ((nx_6 (by omega) ‹_› (by omega) (of_decide_eq_true ‹wrB _ = true›) (by omega)).trans (can_n (by omega) (by omega) (by omega)))).symm), rfl⟩)
          ·
           exact br (.bool (decide ((((Th.lg (thA ts th))).length : Int) < lm))) (.f) (wkd [(decide ((((Th.lg (thA ts th))).length : Int) < lm)) = false] (by kernel_rfl) ⟨(by first | rfl | exact decide_eq_true (by omega) | exact decide_eq_false (by omega) | exact (can_1 (by omega)).symm | exact (can_2 (by omega)).symm | exact ((nx_1 (by omega)).trans (can_n (by omega) (by omega) (by omega))).symm | exact ((nx_2 ‹_›).trans (can_n (by omega) (by omega) (by omega))).symm | exact ((nx_3 (by omega)).trans (can_n (by omega) (by omega) (by omega))).symm | exact ((decide_eq_false (by omega)).symm.trans ((nx_6 (by omega) ‹_› (by omega) (of_decide_eq_true ‹wrB _ = true›) (by omega)).trans (can_n (by omega) (by omega) (by omega)))).symm | exact (can_3 (by omega) (by omega) (by omega)).symm | exact ((nx_4 (by omega) ‹_› (by omega) (of_decide_eq_false ‹wrB _ = false›)).trans (can_n (by omega) (by omega) (by omega))).symm | exact ((nx_5 (by omega) ‹_› (by omega) (by omega)).trans (can_n (by omega) (by omega) (by omega))).symm | exact ((decide_eq_true (by omega)).symm.trans ((nx_6 (by omega) ‹_› (by omega) (of_decide_eq_true ‹wrB _ = true›) (by omega)).trans (can_n (by omega) (by omega) (by omega)))).symm), trivial⟩) (Or.inl <| ⟨(by first | rfl | exact decide_eq_true (by omega) | exact decide_eq_false (by omega) | exact (can_1 (by omega)).symm | exact (can_2 (by omega)).symm | exact ((nx_1 (by omega)).trans (can_n (by omega) (by omega) (by omega))).symm | exact ((nx_2 ‹_›).trans (can_n (by omega) (by omega) (by omega))).symm | exact ((nx_3 (by omega)).trans (can_n (by omega) (by omega) (by omega))).symm | exact ((decide_eq_false (by omega)).symm.trans ((nx_6 (by omega) ‹_› (by omega) (of_decide_eq_true ‹wrB _ = true›) (by omega)).trans (can_n (by omega) (by omega) (by omega)))).symm | exact (can_3 (by omega) (by omega) (by omega)).symm | exact ((nx_4 (by omega) ‹_› (by omega) (of_decide_eq_false ‹wrB _ = false›)).trans (can_n (by omega) (by omega) (by omega))).symm | exact ((nx_5 (by omega) ‹_› (by omega) (by omega)).trans (can_n (by omega) (by omega) (by omega))).symm | exact ((decide_eq_true (by omega)).symm.trans ((nx_6 (by omega) ‹_› (by omega) (of_decide_eq_true ‹wrB _ = true›) (by omega)).trans (can_n (by omega) (by omega) (by omega)))).symm), rfl⟩)

theorem acan_1 (W : Int) (xs ys : List Int) (f0 f1 f2 t0 t1 t2 sz lm : Int) (ts : List Th) (ph scn fl : Int) (os : List Int) (brk th : Int) (hp0 : -9223372036854775808 ≤ W ∧ W ≤ 9223372036854775807) (hp1 : U64s xs) (hp2 : U64s ys) (hp3 : -9223372036854775808 ≤ f0 ∧ f0 ≤ 9223372036854775807) (hp4 : -9223372036854775808 ≤ f1 ∧ f1 ≤ 9223372036854775807) (hp5 : -9223372036854775808 ≤ f2 ∧ f2 ≤ 9223372036854775807) (hp6 : -9223372036854775808 ≤ t0 ∧ t0 ≤ 9223372036854775807) (hp7 : -9223372036854775808 ≤ t1 ∧ t1 ≤ 9223372036854775807) (hp8 : -9223372036854775808 ≤ t2 ∧ t2 ≤ 9223372036854775807) (hp9 : -9223372036854775808 ≤ sz ∧ sz ≤ 9223372036854775807) (hp10 : -9223372036854775808 ≤ lm ∧ lm ≤ 9223372036854775807) (hp11 : Ths ts) (hp12 : (ts.length : Int) * 144 ≤ 140737488355000) (hp13 : -9223372036854775808 ≤ ph ∧ ph ≤ 9223372036854775807) (hp14 : -9223372036854775808 ≤ scn ∧ scn ≤ 9223372036854775807) (hp15 : -9223372036854775808 ≤ fl ∧ fl ≤ 9223372036854775807) (hp16 : I64s os) (hp17 : (os.length : Int) * 8 ≤ 140737488355000) (hp18 : -9223372036854775808 ≤ brk ∧ brk ≤ 9223372036854775807) (hp19 : -9223372036854775808 ≤ th ∧ th ≤ 9223372036854775807) (hp20 : (canB lm ph brk ts th) = false) : Pub Try.prog 12 [.agg (hp W xs ys f0 f1 f2 t0 t1 t2 sz lm ts ph scn fl os brk), .i th] (fun rv => rv = .f) := by
  refine (acan W xs ys f0 f1 f2 t0 t1 t2 sz lm ts ph scn fl os brk th hp0 hp1 hp2 hp3 hp4 hp5 hp6 hp7 hp8 hp9 hp10 hp11 hp12 hp13 hp14 hp15 hp16 hp17 hp18 hp19).mono ?_
  rintro _ (⟨g0, rfl⟩ | ⟨g0, rfl⟩)
  all_goals first | rfl | (exfalso; first | omega | grind)

theorem acan_2 (W : Int) (xs ys : List Int) (f0 f1 f2 t0 t1 t2 sz lm : Int) (ts : List Th) (ph scn fl : Int) (os : List Int) (brk th : Int) (hp0 : -9223372036854775808 ≤ W ∧ W ≤ 9223372036854775807) (hp1 : U64s xs) (hp2 : U64s ys) (hp3 : -9223372036854775808 ≤ f0 ∧ f0 ≤ 9223372036854775807) (hp4 : -9223372036854775808 ≤ f1 ∧ f1 ≤ 9223372036854775807) (hp5 : -9223372036854775808 ≤ f2 ∧ f2 ≤ 9223372036854775807) (hp6 : -9223372036854775808 ≤ t0 ∧ t0 ≤ 9223372036854775807) (hp7 : -9223372036854775808 ≤ t1 ∧ t1 ≤ 9223372036854775807) (hp8 : -9223372036854775808 ≤ t2 ∧ t2 ≤ 9223372036854775807) (hp9 : -9223372036854775808 ≤ sz ∧ sz ≤ 9223372036854775807) (hp10 : -9223372036854775808 ≤ lm ∧ lm ≤ 9223372036854775807) (hp11 : Ths ts) (hp12 : (ts.length : Int) * 144 ≤ 140737488355000) (hp13 : -9223372036854775808 ≤ ph ∧ ph ≤ 9223372036854775807) (hp14 : -9223372036854775808 ≤ scn ∧ scn ≤ 9223372036854775807) (hp15 : -9223372036854775808 ≤ fl ∧ fl ≤ 9223372036854775807) (hp16 : I64s os) (hp17 : (os.length : Int) * 8 ≤ 140737488355000) (hp18 : -9223372036854775808 ≤ brk ∧ brk ≤ 9223372036854775807) (hp19 : -9223372036854775808 ≤ th ∧ th ≤ 9223372036854775807) (hp20 : (canB lm ph brk ts th) = true) : Pub Try.prog 12 [.agg (hp W xs ys f0 f1 f2 t0 t1 t2 sz lm ts ph scn fl os brk), .i th] (fun rv => rv = .t) := by
  refine (acan W xs ys f0 f1 f2 t0 t1 t2 sz lm ts ph scn fl os brk th hp0 hp1 hp2 hp3 hp4 hp5 hp6 hp7 hp8 hp9 hp10 hp11 hp12 hp13 hp14 hp15 hp16 hp17 hp18 hp19).mono ?_
  rintro _ (⟨g0, rfl⟩ | ⟨g0, rfl⟩)
  all_goals first | rfl | (exfalso; first | omega | grind)

end Go.Proofs.Ytjchmajamlehmaa.X
