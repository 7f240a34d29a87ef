/- Whether a thread can do something; right heaps' threads. No program in sight. -/
import Derived.Test.YtmmfpkkamgapkaaGreatXu6
namespace Go.Proofs.YtmmfpkkamgapkaaGreat.X
open Go Go.RowKit
set_option linter.unusedVariables false
def wrB (k:Int):Bool:=decide (4<=k/\k<=7)
def nxB (lm ph:Int)(t:Th):Bool:=decide (0<(t.lf.length:Int)) && !t.wt && decide (ph≠2) && (!wrB (opA t.lf 0).k || decide (ph≠1) || decide ((t.lg.length:Int)<lm))
def canB (lm ph brk:Int)(ts:List Th)(th:Int):Bool:=decide (0<=th/\th<(ts.length:Int)) && decide (brk=0) && (decide (0<((thA ts th).pd.length:Int)) || nxB lm ph (thA ts th))
section
variable {lm ph brk th:Int} {ts:List Th} {t:Th}
theorem can_1 (h:th<0\/(ts.length:Int)<=th):false=canB lm ph brk ts th:=by
 unfold canB; rw [decide_eq_false (by omega:¬ (0<=th/\th<(ts.length:Int)))]; rfl
theorem can_2 (h:brk≠0):false=canB lm ph brk ts th:=by
 unfold canB; rw [decide_eq_false h]; simp
theorem can_3 (h:0<=th/\th<(ts.length:Int))(hb:brk=0)(hp:0<((Th.pd (thA ts th)).length:Int)):true=canB lm ph brk ts th:=by
 unfold canB; rw [decide_eq_true h,decide_eq_true hb,decide_eq_true hp]; rfl
theorem can_n (h:0<=th/\th<(ts.length:Int))(hb:brk=0)(hp:((Th.pd (thA ts th)).length:Int)<=0):nxB lm ph (thA ts th)=canB lm ph brk ts th:=by
 unfold canB; rw [decide_eq_true h,decide_eq_true hb,decide_eq_false om]; simp
theorem nx_1 (h:((Th.lf t).length:Int)=0):false=nxB lm ph t:=by unfold nxB; rw [decide_eq_false om]; simp
theorem nx_2 (h:(Th.wt t)=true):false=nxB lm ph t:=by unfold nxB; rw [h]; simp
theorem nx_3 (h:ph=2):false=nxB lm ph t:=by unfold nxB; simp [h]
theorem nx_4 (h1:0<((Th.lf t).length:Int))(h2:(Th.wt t)=false)(h3:ph≠2)(h:¬ (4<=(OpV.k (opA (Th.lf t) 0))/\(OpV.k (opA (Th.lf t) 0))<=7)):true=nxB lm ph t:=by
 unfold nxB wrB; rw [decide_eq_true h1,h2,decide_eq_true h3,decide_eq_false h]; rfl
theorem nx_5 (h1:0<((Th.lf t).length:Int))(h2:(Th.wt t)=false)(h3:ph≠2)(h:ph≠1):true=nxB lm ph t:=by
 unfold nxB; rw [decide_eq_true h1,h2,decide_eq_true h3,decide_eq_true h]; simp
theorem nx_6 (h1:0<((Th.lf t).length:Int))(h2:(Th.wt t)=false)(h3:ph≠2)(hw:4<=(OpV.k (opA (Th.lf t) 0))/\(OpV.k (opA (Th.lf t) 0))<=7)(h:ph=1):decide (((Th.lg t).length:Int)<lm)=nxB lm ph t:=by
 unfold nxB wrB; rw [decide_eq_true h1,h2,decide_eq_true h3,decide_eq_true hw]; simp [h]
theorem can_is (h:canB lm ph brk ts th=true):(0<=th/\th<(ts.length:Int))/\brk=0/\(0<((Th.pd (thA ts th)).length:Int)\/(((Th.pd (thA ts th)).length:Int)=0/\0<((Th.lf (thA ts th)).length:Int)/\(Th.wt (thA ts th))=false/\ph≠2/\((OpV.k (opA (Th.lf (thA ts th)) 0))<4\/7<(OpV.k (opA (Th.lf (thA ts th)) 0))\/ph≠1\/((Th.lg (thA ts th)).length:Int)<lm))):=by
 unfold canB nxB wrB at h
 simp only [Bool.and_eq_true,Bool.or_eq_true,decide_eq_true_eq,Bool.not_eq_eq_eq_not,Bool.not_true,decide_eq_false_iff_not] at h
 obtain ⟨⟨h1,h2⟩,h3⟩:=h
 refine ⟨h1,h2,?_⟩
 by_cases hp:0<((Th.pd (thA ts th)).length:Int)
 ·exact .inl hp
 ·rcases h3 with h3 | ⟨⟨⟨h4,h5⟩,h6⟩,h7⟩
  ·exact absurd h3 hp
  ·refine .inr ⟨om,h4,h5,h6,?_⟩
   rcases h7 with (h7 | h7) | h7 <;> omega
theorem can_nx (h:canB lm ph brk ts th=true):0<((Th.pd (thA ts th)).length:Int)\/(((Th.pd (thA ts th)).length:Int)=0/\0<((Th.lf (thA ts th)).length:Int)/\ph≠2):=by
 obtain ⟨h1,h2,h3⟩:=can_is h
 rcases h3 with h3 | ⟨h3,h4,h5,h6,_⟩
 ·exact .inl h3
 ·exact .inr ⟨h3,h4,h6⟩
def Bfs (ts:List Th)(b:Int):Prop:=∀ t∈ts,((t.b0=0/\t.b1=0)\/(0<=t.b0/\t.b0<=t.b1/\t.b1<=b))/\(t.pd.length:Int)<=1
theorem Bfs.at {b:Int}(h:Bfs ts b)(hb:0<=b)(n:Int):(((Th.b0 (thA ts n))=0/\(Th.b1 (thA ts n))=0)\/(0<=(Th.b0 (thA ts n))/\(Th.b0 (thA ts n))<=(Th.b1 (thA ts n))/\(Th.b1 (thA ts n))<=b))/\((Th.pd (thA ts n)).length:Int)<=1:=getD_in (Q:=fun t:Th=>((t.b0=0/\t.b1=0)\/(0<=t.b0/\t.b0<=t.b1/\t.b1<=b))/\(t.pd.length:Int)<=1) h (by simp) _
theorem bfs_0 {b:Int} : Bfs (ts.take (Int.toNat 0)) b:=fun t h=>by simp at h
theorem take_nextT {i:Int}(h0:0<=i)(h:i<(ts.length:Int)):ts.take (Int.toNat (i + 1))=ts.take (Int.toNat i)++[thA ts i]:=by
 have h3:i.toNat<ts.length:=om
 rw [show (i + 1).toNat=i.toNat + 1 by omega,List.take_add_one,List.getElem?_eq_getElem h3]
 unfold thA
 rw [List.getD_eq_getElem?_getD,List.getElem?_eq_getElem h3]; rfl
theorem bfs_next {b i:Int}(h:Bfs (ts.take (Int.toNat i)) b)(h0:0<=i)(h1:i<(ts.length:Int))(hq:((Th.b0 (thA ts i))=0/\(Th.b1 (thA ts i))=0)\/(0<=(Th.b0 (thA ts i))/\(Th.b0 (thA ts i))<=(Th.b1 (thA ts i))/\(Th.b1 (thA ts i))<=b))(hp:((Th.pd (thA ts i)).length:Int)<=1):Bfs (ts.take (Int.toNat (i + 1))) b:=fun t ht=>by
 rw [take_nextT h0 h1] at ht
 rcases List.mem_append.1 ht with ht | ht
 ·exact h t ht
 ·rw [List.mem_singleton.1 ht]; exact ⟨hq,hp⟩
theorem bfs_all {b i:Int}(h:Bfs (ts.take (Int.toNat i)) b)(hi:(ts.length:Int)<=i):Bfs ts b:=by
 rw [List.take_of_length_le om] at h; exact h
end
def RGT (W:Int)(xs ys:List Int)(f0 f1 f2 t0 t1 t2 sz lm:Int)(ts:List Th)(ph sc:Int):Prop :=
 (16<=W/\W<=4096/\(xs.length:Int)=W/\(ys.length:Int)=W)/\(0<=f0/\f0<=1/\0<=f1/\f1<=f2/\f2=W)/\(0<=t0/\t0<=1/\0<=t1/\t1<=t2/\t2=W/\f0≠t0)/\(0<=sz/\sz<=4096/\1<=lm/\lm<=64)/\(1<=(ts.length:Int)/\(ts.length:Int)<=4)/\(0<=ph/\ph<=2/\0<=sc/\sc<=t1)/\Bfs ts f1
end Go.Proofs.YtmmfpkkamgapkaaGreat.X
