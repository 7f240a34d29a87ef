/- Short steps for printed proofs. -/
import Derived.Test.YtnfkgfibinimmaaXm2
namespace Go.Proofs.Ytnfkgfibinimmaa.X
open Go Go.RowKit

abbrev SV.i (n : Int) : SV := .int .i64 n
abbrev SV.u (n : Int) : SV := .int .u64 n
abbrev SV.p (r : Nat) : SV := .loc r 0
abbrev SV.t : SV := .bool true
abbrev SV.f : SV := .bool false
abbrev r5 (s b l p q : Int) : List SV := [.int .i64 s, .int .i64 b, .int .i64 l, .int .i64 p, .int .i64 q]
abbrev z8 : List SV := [.int .i64 0, .nils, .nils, .int .i64 0, .int .i64 0, .int .i64 0, .int .i64 0, .int .i64 0]

def dstAt (ops : Array Oper) (i : Nat) : Option Nat := match ops.toList[i]? with
  | some o => o.dst
  | none => none

section
variable {rd : Option Nat} {P : Program} {T : Tab} {N n0 : Nat} {ops : Array Oper}
theorem en {i : Nat} {K : St → Prop} {s : St} (hk : K s) (h : ops.toList.drop i = [] := by kernel_rfl) : XOi rd P N n0 ops i K s := endr h hk
theorem qen {mem : Mem} {nx : Nat} {i : Nat} {K : Fr → Prop} {fr : Fr} (hk : K fr) (h : ops.toList.drop i = [] := by kernel_rfl) : QOi P N ops mem nx i K fr := qend h hk
theorem sen {sg : List (Mem × Nat)} {ws : List Nat} {bf : List (Nat × List Nat)} {i : Nat} {K : Fr → Prop} {fr : Fr} (hk : K fr) (h : ops.toList.drop i = [] := by kernel_rfl) : SO P N ops sg ws bf i K fr := send h hk
theorem pc {i : Nat} {K : St → Prop} {s : St} {f : Nat} {args : List SV} {sv : SV} (hp : Pub P f args (fun t => t = sv)) (hk : XOi rd P N n0 ops (i + 1) K ⟨putO s.fr (dstAt ops i) sv, s.mem, s.nx⟩)
    (h : callAt N ops s.fr i = some (f, args, dstAt ops i) := by kernel_rfl) (hb : bdL 0 args = true := by kernel_rfl) : XOi rd P N n0 ops i K s := pcall0 hp h hb hk
theorem qc {mem : Mem} {nx : Nat} {i : Nat} {K : Fr → Prop} {fr : Fr} {f : Nat} {args : List SV} {sv : SV} (hp : Pub P f args (fun t => t = sv)) (hk : QOi P N ops mem nx (i + 1) K (putO fr (dstAt ops i) sv))
    (h : qcallAt ops fr i = some (f, args, dstAt ops i) := by kernel_rfl) (hb : bdL 0 args = true := by kernel_rfl) : QOi P N ops mem nx i K fr := pqcall0 hp h hb hk
theorem sc {sg : List (Mem × Nat)} {ws : List Nat} {bf : List (Nat × List Nat)} {i : Nat} {K : Fr → Prop} {fr : Fr} {f : Nat} {args : List SV} {sv : SV} (hp : Pub P f args (fun t => t = sv)) (hk : SO P N ops sg ws bf (i + 1) K (putO fr (dstAt ops i) sv))
    (h : qcallAt ops fr i = some (f, args, dstAt ops i) := by kernel_rfl) (hno : wIdx i 0 ws = none := by kernel_rfl) (hb : bdL 0 args = true := by kernel_rfl) : SO P N ops sg ws bf i K fr := scall0 hp h hno hb hk
theorem ct {K : XE → St → Prop} {s : St} {c : Operand} {x y : Code} (ht : XW rd P N n0 x K s) (hc : evo s.fr c = .bool true := by kernel_rfl) : XW rd P N n0 (.cond c x y) K s := xw_true hc ht
theorem cf {K : XE → St → Prop} {s : St} {c : Operand} {x y : Code} (hf : XW rd P N n0 y K s) (hc : evo s.fr c = .bool false := by kernel_rfl) : XW rd P N n0 (.cond c x y) K s := xw_false hc hf
theorem bs {rs : Array ResultVar} {R : SV → Prop} {s : St} (x : SV) (h4 : R x) (h1 : xres T s rs = some x := by kernel_rfl) (h2 : pubS s.mem x = some x := by kernel_rfl) : Back T rs R .ret s := ⟨x, x, x, h1, h2, fun _ _ h => h, h4⟩
theorem bn {rs : Array ResultVar} {R : SV → Prop} {s : St} (x : SV) (h4 : R x) (h1 : xres T s rs = some x := by kernel_rfl) (h2 : pubS s.mem x = some x := by kernel_rfl) : Back T rs R .normal s := ⟨x, x, x, h1, h2, fun _ _ h => h, h4⟩
theorem br {rs : Array ResultVar} {R : SV → Prop} {s : St} (x t : SV) (h3 : WkD x t) (h4 : R t) (h1 : xres T s rs = some x := by kernel_rfl) (h2 : pubS s.mem x = some x := by kernel_rfl) : Back T rs R .ret s := ⟨x, x, t, h1, h2, h3, h4⟩
theorem bq {rs : Array ResultVar} {R : SV → Prop} {s : St} (x t : SV) (h3 : WkD x t) (h4 : R t) (h1 : xres T s rs = some x := by kernel_rfl) (h2 : pubS s.mem x = some x := by kernel_rfl) : Back T rs R .normal s := ⟨x, x, t, h1, h2, h3, h4⟩
/-- A stretch of operations. -/
theorem rk_ (hT : TabOk P T) (orc : List (Nat × SV)) (n i : Nat) {s : St} (s' : St) (ks : List Prop) {K : St → Prop} (hk : All ks) (hx : XOi rd P N n0 ops (i + n) K s')
    (h : xrunk T N ops orc n i (s'.fr.map Prod.fst) (s'.mem.map Prod.fst) s = some (s', ks) := by kernel_rfl) : XOi rd P N n0 ops i K s := runk hT orc n i _ _ s' ks h hk hx
/-- A whole region, and what follows. -/
theorem rg_ (hT : TabOk P T) (orc : List (Nat × SV)) (n : Nat) {id : Nat} {y : Code} {s : St} (s' : St) (ks : List Prop) {K : XE → St → Prop} (hk : All ks) (hx : XW rd P N n0 y K s')
    (h : xrunk T N ops orc n 0 (s'.fr.map Prod.fst) (s'.mem.map Prod.fst) s = some (s', ks) := by kernel_rfl) (hn : ops.toList.drop (0 + n) = [] := by kernel_rfl) : XW rd P N n0 (.seq (.region id ops false) y) K s :=
  xw_seq (reg (runk hT orc n 0 _ _ s' ks h hk (endr hn hx)))
theorem re_ (hT : TabOk P T) (orc : List (Nat × SV)) (n : Nat) {id : Nat} {s : St} (s' : St) (ks : List Prop) {K : XE → St → Prop} (hk : All ks) (hx : K .normal s')
    (h : xrunk T N ops orc n 0 (s'.fr.map Prod.fst) (s'.mem.map Prod.fst) s = some (s', ks) := by kernel_rfl) (hn : ops.toList.drop (0 + n) = [] := by kernel_rfl) : XW rd P N n0 (.region id ops false) K s :=
  reg (runk hT orc n 0 _ _ s' ks h hk (endr hn hx))
theorem qr_ (hT : TabOk P T) {mem : Mem} {nx : Nat} (orc : List (Nat × SV)) (n i : Nat) {fr : Fr} (fr' : Fr) (ks : List Prop) {K : Fr → Prop} (hk : All ks) (hx : QOi P N ops mem nx (i + n) K fr') (h : xqruni T ops mem nx orc n i fr = some (fr', ks) := by kernel_rfl) : QOi P N ops mem nx i K fr := qrun hT orc n i fr fr' ks h hk hx
theorem sr_ (hT : TabOk P T) {sg : List (Mem × Nat)} {ws : List Nat} {bf : List (Nat × List Nat)} (orc : List (Nat × SV)) (n i : Nat) {fr : Fr} (fr' : Fr) (ks : List Prop) {K : Fr → Prop} (hk : All ks) (hx : SO P N ops sg ws bf (i + n) K fr') (h : xsrun T ops sg ws bf orc n i fr = some (fr', ks) := by kernel_rfl) : SO P N ops sg ws bf i K fr := srun hT orc n i fr' ks h hk hx
end
end Go.Proofs.Ytnfkgfibinimmaa.X
