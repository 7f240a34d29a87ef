/- What a bound on an argument's bulk gives: a bound on each slice's bytes. -/
import Derived.Test.YtmmfpkkamgapkaaGreatRows
import Derived.Test.YtmmfpkkamgapkaaGreatXs
import Derived.JoinedCond
namespace Go.Proofs.YtmmfpkkamgapkaaGreat.X
open Go Go.RowKit
def closT (P:Program)(S:List Nat)(M:Nat):Bool:=S.all fun t=>Nat.ble (P.bytesOf t) M && match P.underlying t with
 | some (.slice e)=>S.contains e
 | some (.struct fs)=>fs.toList.all fun f=>S.contains f.type
 | some (.array _ e)=>S.contains e
 | some (.pointer e)=>S.contains e
 | some (.map _ _)=>false
 | _=>true
section
variable {H:Type} {P:Program} {S:List Nat} {M:Nat}
theorem clos_at (hS:closT P S M=true){t:Nat}(ht:t∈S):P.bytesOf t<=M/\(match P.underlying t with
 | some (.slice e)=>S.contains e
 | some (.struct fs)=>fs.toList.all fun f=>S.contains f.type
 | some (.array _ e)=>S.contains e
 | some (.pointer e)=>S.contains e
 | some (.map _ _)=>false
 | _=>true)=true:=by
 have:=List.all_eq_true.1 hS t ht
 rw [Bool.and_eq_true] at this
 exact ⟨Nat.le_of_ble_eq_true this.1,this.2⟩
theorem bulk_len:∀ l:List (DataW H),l.length<=Rows.uptoBulkAll l
 | []=>by simp [Rows.uptoBulkAll]
 | x :: l=>by
  have h1:=bulk_len l
  have h2:1<=Rows.uptoBulk x:=by
   cases x with
   | lit l=>cases l <;> simp [Rows.uptoBulk]
   | _=>simp [Rows.uptoBulk]
  simp only [Rows.uptoBulkAll,List.length_cons]; omega
mutual
theorem wt_le (hS:closT P S M=true)(hM:1<=M):∀ (d:DataW H) (t:Nat),t∈S->∀ q∈d.weights P t,q<=Rows.uptoBulk d * M
 | .lit l,t,ht,q,hq=>by
  cases l with
  | string bytes =>
   simp only [DataW.weights,List.mem_singleton] at hq
   subst hq
   simp only [Rows.uptoBulk]
   exact Nat.le_trans (Nat.le_succ _) (Nat.le_mul_of_pos_right _ hM)
  | _=>simp [DataW.weights] at hq
 | .nil,t,ht,q,hq=>by simp [DataW.weights] at hq
 | .ptr d,t,ht,q,hq=>by
  have hc:=(clos_at hS ht).2
  simp only [DataW.weights] at hq
  split at hq
  ·rename_i e he
   rw [he] at hc
   have:=wt_le hS hM d e (by simpa using hc) q hq
   simp only [Rows.uptoBulk]
   exact Nat.le_trans this (Nat.mul_le_mul_right _ (Nat.le_succ _))
  ·simp at hq
 | .slice elems spare,t,ht,q,hq=>by
  have hc:=(clos_at hS ht).2
  simp only [DataW.weights] at hq
  split at hq
  ·rename_i e he
   rw [he] at hc
   have hc:e∈S:=by simpa using hc
   have hb:=(clos_at hS hc).1
   simp only [Rows.uptoBulk]
   rcases List.mem_cons.1 hq with rfl | hq
   ·have h1:=bulk_len elems
    have h2:=bulk_len spare
    exact Nat.mul_le_mul om hb
   ·rcases List.mem_append.1 hq with hq | hq
    ·exact Nat.le_trans (wtA hS hM elems e hc q hq) (Nat.mul_le_mul_right _ om)
    ·exact Nat.le_trans (wtA hS hM spare e hc q hq) (Nat.mul_le_mul_right _ om)
  ·simp at hq
 | .agg parts,t,ht,q,hq=>by
  have hc:=(clos_at hS ht).2
  simp only [DataW.weights] at hq
  simp only [Rows.uptoBulk]
  split at hq
  ·rename_i fs he
   rw [he] at hc
   refine Nat.le_trans (wtE hS hM parts (fs.toList.map (·.type)) (fun u hu=>?_) q hq) (Nat.mul_le_mul_right _ om)
   obtain ⟨f,hf,rfl⟩:=List.mem_map.1 hu
   simpa using List.all_eq_true.1 hc f hf
  ·rename_i n e he
   rw [he] at hc
   exact Nat.le_trans (wtA hS hM parts e (by simpa using hc) q hq) (Nat.mul_le_mul_right _ om)
  ·simp at hq
 | .iface _ _,t,ht,q,hq=>by simp [DataW.weights] at hq
 | .map entries,t,ht,q,hq=>by
  have hc:=(clos_at hS ht).2
  simp only [DataW.weights] at hq
  split at hq
  ·rename_i k e he
   rw [he] at hc; cases hc
  ·simp at hq
 | .held _,t,ht,q,hq=>by simp [DataW.weights] at hq
theorem wtA (hS:closT P S M=true)(hM:1<=M):∀ (l:List (DataW H)) (e:Nat),e∈S->∀ q∈DataW.weightsAll P e l,q<=Rows.uptoBulkAll l * M
 | [],e,he,q,hq=>by simp [DataW.weightsAll] at hq
 | d :: l,e,he,q,hq=>by
  simp only [DataW.weightsAll,List.mem_append] at hq
  simp only [Rows.uptoBulkAll]
  rcases hq with hq | hq
  ·exact Nat.le_trans (wt_le hS hM d e he q hq) (Nat.mul_le_mul_right _ om)
  ·exact Nat.le_trans (wtA hS hM l e he q hq) (Nat.mul_le_mul_right _ om)
theorem wtE (hS:closT P S M=true)(hM:1<=M):∀ (l:List (DataW H)) (ts:List Nat),(∀ t∈ts,t∈S)->∀ q∈DataW.weightsEach P ts l,q<=Rows.uptoBulkAll l * M
 | [],ts,ht,q,hq=>by cases ts <;> simp [DataW.weightsEach] at hq
 | d :: l,[],ht,q,hq=>by simp [DataW.weightsEach] at hq
 | d :: l,t :: ts,ht,q,hq=>by
  simp only [DataW.weightsEach,List.mem_append] at hq
  simp only [Rows.uptoBulkAll]
  rcases hq with hq | hq
  ·exact Nat.le_trans (wt_le hS hM d t (ht t List.mem_cons_self) q hq) (Nat.mul_le_mul_right _ om)
  ·exact Nat.le_trans (wtE hS hM l ts (fun u hu=>ht u (List.mem_cons_of_mem _ hu)) q hq) (Nat.mul_le_mul_right _ om)
end
theorem small_w {ts:List Nat}{ds:List (DataW H)}(hS:closT P S M=true)(hM:1<=M)(ht:∀ t∈ts,t∈S)(hk:Rows.uptoSmall H ds=true):∀ q∈DataW.weightsEach P ts ds,q<=1048576 * M:=fun q hq=>by
 have h:Rows.uptoBulkAll ds<=1048576:=of_decide_eq_true hk
 exact Nat.le_trans (wtE hS hM ds ts ht q hq) (Nat.mul_le_mul_right _ h)
end
end Go.Proofs.YtmmfpkkamgapkaaGreat.X
