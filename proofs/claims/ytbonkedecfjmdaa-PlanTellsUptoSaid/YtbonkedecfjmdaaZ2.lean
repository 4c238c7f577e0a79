/- Short names of words, for a text that would be too long for a file. The print's steps with what is shown alike at each of them left to a default: for texts that would be too long. No condition. bits.Add64, a function without a body, as the model runs it: for any two words and a carry that is at most 1. slices.Grow and slices.Concat over rows of numbers. No condition. Written for this claim by a program of this session (a turned copy of the print): Go functions as Lean functions, and that the Go code comes to just these answers; or a statement proved out of them. No condition. -/
import Derived.Test.YtbonkedecfjmdaaZ1
import Derived.Test.YtbonkedecfjmdaaProg
import Derived.WalkKit
import Derived.KernelRfl
import Derived.Below
import Derived.Deep.Draws
import Derived.Deep.AppendLies
import Derived.Maps.AppendAt
import Derived.OwnWalk
import Derived.Laws.BytesArg
import Derived.Laws.MakeOwn
import Derived.Laws.OwnMore
import Derived.Deep.OwnRows
import Derived.Tactics
import Derived.Lib.ConvBytes
import Derived.Laws.Slices
import Derived.RowKit3
import Derived.Deep.LoopGhost
import Derived.Deep.QuietTactic
import Derived.BigQuiet
import Derived.WideLaws
import Derived.Deep.DeepCutAuto
import Derived.Deep.CutBlock
import Derived.Deep.RegionHeld3
import Derived.Laws.Rows
import Derived.Lib.AppendStr
import Derived.ArgAppend
import Derived.Laws.IdiomCopy
import Derived.OrdersHeld
import Derived.Laws.BitsLemmas
import Derived.RowKit
import Derived.WalkMore
import Derived.Lib.LazyBuf

namespace Go.Proofs.Ytbonkedecfjmdaa.X
set_option linter.unusedVariables false
open Go Go.RowKit Go.Proofs.YtbonkedecfjmdaaW.PrintWords
abbrev bN:=@Q0c
abbrev bD:=@Q0d
abbrev bA:=@Q0b
abbrev AM:=@Aside0.mk
theorem sT {α:Type} (l:List α) (i:Nat) (a:α):l.toArray.setIfInBounds i a=(l.set i a).toArray:=List.setIfInBounds_toArray ..
theorem sZ {α:Type} (b:α) (l:List α) (a:α):(b :: l).set 0 a=a :: l:=List.set_cons_zero
theorem sS {α:Type} (b:α) (l:List α) (n:Nat) (a:α):(b :: l).set (n+1) a=b :: l.set n a:=List.set_cons_succ
theorem bK {w0 w:World} {g:Nat} {o:Obj} (b:Aside0 (w0.heap[g]? = some o)) (h:w0.heap[g]? = some o→w.heap[g]? = some o:=by intro h;(repeat (first|(with_reducible first|refine Q0c ?_ _|refine Q0d ?_|refine Q0b ?_ _)|refine Q2f ?_ (Aside0.out (by assumption)) _));exact h):w.heap[g]? = some o:=h b.out
theorem bH {w w0 w1:World} (b:Aside0 (Below w.heap.size w w0)) (h:Below w.heap.size w w0→Below w.heap.size w w1:=by intro h;repeat (first|(with_reducible first|exact h|apply Q14|apply Q21|apply Q2k|refine Q2x ?_ (Aside0.out (by assumption)))|exact h)):Below w.heap.size w w1:=h b.out
theorem rK {α:Type} {d:Kd α} {e base:Nat} {ok:Nat→Prop} {w0 w:World} {v:Value} {xs:List α} (b:Aside0 (Kd.R d e w0 base ok v xs)) (h:Kd.R d e w0 base ok v xs→Kd.R d e w base ok v xs:=by intro h;(with_reducible repeat (first|apply Kd.Q10|apply Kd.Q11|apply Kd.Q2h));exact h):Kd.R d e w base ok v xs:=h b.out
end Go.Proofs.Ytbonkedecfjmdaa.X

namespace Go.Proofs.Ytbonkedecfjmdaa.X
set_option linter.unusedVariables false
open Go Go.RowKit Go.Proofs.YtbonkedecfjmdaaW.PrintWords Go.Proofs.YtbonkedecfjmdaaW.PrintLast
section
variable {P:Program} {ops:Array Oper} {Q:Exit→Act→World→Prop} {md:Region.Mode} {S:World→Prop} {ds:List Nat}
theorem pP (i:Nat) (N:Option Tmp) {oi:Oper} {v:Value} {fuel:Nat} {l:Array Bool} {a a':Act} {w:World} (h:wpAnyLast P md ops Q S ds fuel (l.setIfInBounds i true) a' w)
  (hi:ops[i]? = some oi:=by exact rfl) (hN:oi.dst=N:=by rfl) (hc:anyB md ops l (l.setIfInBounds i true) i=true:=by kernel_rfl) (hQ:∀ c a w,Q (.panic c) (a.put oi.dst v) w→Q (.panic c) a w:=by exact fun _ _ _ h=>h)
  (hy:Yields P ops oi v a:=by exact Or.inl ⟨by rfl,by intro w';go_simp;with_reducible rfl⟩) (ha:a.put N v=a':=by simp only [Act.put,List.setIfInBounds_toArray,List.set_cons_zero,List.set_cons_succ,Q1r,Q13];rfl) :
  wpAnyLast P md ops Q S ds (fuel+1) l a w:=pure_ _ hi hN hc hQ hy ha h
theorem tP (i:Nat) (N:Option Tmp) {oi:Oper} {v:Value} {fuel:Nat} {l:Array Bool} {a a':Act} {w:World} (hS:S w) (h:wpAnyLast P md ops Q S ds fuel (l.setIfInBounds i true) a' w)
  (hi:ops[i]? = some oi:=by exact rfl) (hN:oi.dst=N:=by rfl) (hc:takeB md ops ds l (l.setIfInBounds i true) i=true:=by kernel_rfl) (hQ:∀ c a w,Q (.panic c) (a.put oi.dst v) w→Q (.panic c) a w:=by exact fun _ _ _ h=>h)
  (hy:YieldsIf P ops S oi v a:=by exact Or.inl ⟨by rfl,by intro w' hS_;(repeat (have s_:=And.left hS_;replace hS_:=And.right hS_));go_simp;with_reducible rfl⟩) (ha:a.put N v=a':=by simp only [Act.put,List.setIfInBounds_toArray,List.set_cons_zero,List.set_cons_succ,Q1r,Q13];rfl) :
  wpAnyLast P md ops Q S ds (fuel+1) l a w:=take_ _ hi hN hc hQ hy hS ha h
theorem oP (i:Nat) (N:Option Tmp) {oi:Oper} {fuel:Nat} {l:Array Bool} {a:Act} {w:World} (hi:ops[i]? = some oi)
  (h:∀ K:Act→World→Prop,Shut (∀ a' w',S w'→(S w'→wpAnyLast P md ops Q S ds fuel (l.setIfInBounds i true) a' w')→K a' w')→if Region.wanted oi (yielded ops a.tmps)=true then Oper.wp P oi a w K Q else K (a.put N undef) w)
  (hN:oi.dst=N:=by rfl) (hc:readyB md ops l (l.setIfInBounds i true) i=true:=by kernel_rfl) (hd:i∉ds:=by decide):wpAnyLast P md ops Q S ds (fuel+1) l a w:=one_ _ hi hN hc hd h
theorem lP (i:Nat) (N:Option Tmp) {oi:Oper} {fuel:Nat} {l:Array Bool} {a:Act} {w:World} (hi:ops[i]? = some oi)
  (h:∀ K:Act→World→Prop,Shut (∀ a' w',wpAnyLast P md ops Q S ds fuel (l.setIfInBounds i true) a' w'→K a' w')→if Region.wanted oi (yielded ops a.tmps)=true then Oper.wp P oi a w K Q else K (a.put N undef) w)
  (hN:oi.dst=N:=by rfl) (hc:readyB md ops l (l.setIfInBounds i true) i=true:=by kernel_rfl) (hd:i∈ds:=by decide):wpAnyLast P md ops Q S ds (fuel+1) l a w:=last_ _ hi hN hc hd h
theorem nP (N:Option Tmp) {fuel:Nat} {l:Array Bool} {b a':Act} {v:Value} {w:World} (h:wpAnyLast P md ops Q S ds fuel l a' w) (ha:b.put N v=a':=by simp only [Act.put,List.setIfInBounds_toArray,List.set_cons_zero,List.set_cons_succ,Q1r,Q13];rfl):wpAnyLast P md ops Q S ds fuel l (b.put N v) w:=norm_ ha h
theorem sP {id:Nat} (n:Nat) {a:Act} {w:World} (hS:S w.drew) (h:S w.drew→wpAnyLast P .any ops Q S ds n (Array.replicate n false) a w.drew) (hm:P.follows .mixedOrders=true:=by kernel_rfl) (hn:ops.size=n:=by rfl):(Code.region id ops true).wp P Q a w:=start_ _ hm hn rfl hS h
theorem pQ (i:Nat) (N:Option Tmp) {T:Bool×List (List Nat×List Nat)} (hT:Aside0 (rtab md ops=T)) {oi:Oper} {v:Value} {fuel:Nat} {l:Array Bool} {a a':Act} {w:World} (h:wpAnyLast P md ops Q S ds fuel (l.setIfInBounds i true) a' w)
  (hi:ops[i]? = some oi:=by rfl) (hN:oi.dst=N:=by rfl) (hc:anyT T l.toList (l.setIfInBounds i true).toList i=true:=by kernel_rfl) (hQ:∀ c a w,Q (.panic c) (a.put oi.dst v) w→Q (.panic c) a w:=by exact fun _ _ _ h=>h)
  (hy:Yields P ops oi v a:=by exact Or.inl ⟨by rfl,by intro w';go_simp;with_reducible rfl⟩) (ha:a.put N v=a':=by simp only [Act.put,List.setIfInBounds_toArray,List.set_cons_zero,List.set_cons_succ,Q1r,Q13];rfl) :
  wpAnyLast P md ops Q S ds (fuel+1) l a w:=pure_ _ hi hN (Qei hT.out hc) hQ hy ha h
theorem tQ (i:Nat) (N:Option Tmp) {T:Bool×List (List Nat×List Nat)} {B:List Nat} (hT:Aside0 (rtab md ops=T)) (hB:Aside0 (waitsOk T.2 B=true)) {oi:Oper} {v:Value} {fuel:Nat} {l:Array Bool} {a a':Act} {w:World} (hS:S w) (h:wpAnyLast P md ops Q S ds fuel (l.setIfInBounds i true) a' w)
  (hi:ops[i]? = some oi:=by rfl) (hN:oi.dst=N:=by rfl) (hc:takeW T B ds l.toList (l.setIfInBounds i true).toList i=true:=by kernel_rfl) (hQ:∀ c a w,Q (.panic c) (a.put oi.dst v) w→Q (.panic c) a w:=by exact fun _ _ _ h=>h)
  (hy:YieldsIf P ops S oi v a:=by exact Or.inl ⟨by rfl,by intro w' hS_;(repeat (have s_:=And.left hS_;replace hS_:=And.right hS_));go_simp;with_reducible rfl⟩) (ha:a.put N v=a':=by simp only [Act.put,List.setIfInBounds_toArray,List.set_cons_zero,List.set_cons_succ,Q1r,Q13];rfl) :
  wpAnyLast P md ops Q S ds (fuel+1) l a w:=take_ _ hi hN (Qd1 hT.out hB.out hc) hQ hy hS ha h
theorem oQ (i:Nat) (N:Option Tmp) {T:Bool×List (List Nat×List Nat)} (hT:Aside0 (rtab md ops=T)) {oi:Oper} (hi:ops[i]? = some oi) {fuel:Nat} {l:Array Bool} {a:Act} {w:World}
  (h:∀ K:Act→World→Prop,Shut (∀ a' w',S w'→(S w'→wpAnyLast P md ops Q S ds fuel (l.setIfInBounds i true) a' w')→K a' w')→if Region.wanted oi (yielded ops a.tmps)=true then Oper.wp P oi a w K Q else K (a.put N undef) w)
  (hN:oi.dst=N:=by rfl) (hc:(readyT T.2 l.toList==[i]&&l.toList.set i true==(l.setIfInBounds i true).toList)=true:=by kernel_rfl) (hd:i∉ds:=by decide):wpAnyLast P md ops Q S ds (fuel+1) l a w:=one_ _ hi hN (Q7e hT.out hc) hd h
theorem uP (i:Nat) (N:Option Tmp) {oi:Oper} {fuel:Nat} {l:Array Bool} {a a':Act} {w:World} (h:wpAnyLast P md ops Q S ds fuel (l.setIfInBounds i true) a' w)
  (hi:ops[i]? = some oi:=by rfl) (hN:oi.dst=N:=by rfl) (hc:anyB md ops l (l.setIfInBounds i true) i=true:=by kernel_rfl) (hQ:∀ c a w,Q (.panic c) (a.put oi.dst undef) w→Q (.panic c) a w:=by exact fun _ _ _ h=>h)
  (hy:Yields P ops oi undef a:=by exact Or.inr ⟨by rfl,rfl⟩) (ha:a.put N undef=a':=by simp only [Act.put,List.setIfInBounds_toArray,List.set_cons_zero,List.set_cons_succ,Q1r,Q13];rfl) :
  wpAnyLast P md ops Q S ds (fuel+1) l a w:=pure_ _ hi hN hc hQ hy ha h
theorem uQ (i:Nat) (N:Option Tmp) {T:Bool×List (List Nat×List Nat)} (hT:Aside0 (rtab md ops=T)) {oi:Oper} {fuel:Nat} {l:Array Bool} {a a':Act} {w:World} (h:wpAnyLast P md ops Q S ds fuel (l.setIfInBounds i true) a' w)
  (hi:ops[i]? = some oi:=by rfl) (hN:oi.dst=N:=by rfl) (hc:anyT T l.toList (l.setIfInBounds i true).toList i=true:=by kernel_rfl) (hQ:∀ c a w,Q (.panic c) (a.put oi.dst undef) w→Q (.panic c) a w:=by exact fun _ _ _ h=>h)
  (hy:Yields P ops oi undef a:=by exact Or.inr ⟨by rfl,rfl⟩) (ha:a.put N undef=a':=by simp only [Act.put,List.setIfInBounds_toArray,List.set_cons_zero,List.set_cons_succ,Q1r,Q13];rfl) :
  wpAnyLast P md ops Q S ds (fuel+1) l a w:=pure_ _ hi hN (Qei hT.out hc) hQ hy ha h
theorem gO {oi:Oper} {N:Option Tmp} {a:Act} {w:World} {K:Act→World→Prop} {f:FuncId} {fn:Func} {asx:Array Operand} {ts:Array TypeId} (hf:P.funcs[f]? = some fn) (args:Array Value)
  (h : Calls P f args w fun e w' => ∃ v, e = .returned v ∧ K (a.put N v) w') (hname : (fn.name == "runtime.NumGoroutine") = false := by kernel_rfl) (hb : fn.body.isSome = true := by rfl)
  (hw:Region.wanted oi (yielded ops a.tmps)=true:=by rfl) (hN:oi.dst=N:=by rfl) (hop:oi.op=.call { callee:=.value (.func f),args:=asx,argTypes:=ts }:=by rfl) (hargs:asx.map a.eval=args:=by (try simp only [List.map_toArray,List.map_cons,List.map_nil]);first|done|rfl|(simp only [List.length_drop,List.length_take];rfl)) :
  if Region.wanted oi (yielded ops a.tmps)=true then Oper.wp P oi a w K Q else K (a.put N undef) w:=goes_ hf hname hb args hw hN hop hargs h
end
section
variable {P:Program} {ops:Array Oper} {rest:List Oper} {o:Oper} {a:Act} {Q:Exit→Act→World→Prop}
theorem gL {oi:Oper} {w:World} (N:Option Tmp) {f:FuncId} {fn:Func} {asx:Array Operand} {ts:Array TypeId} (hf:P.funcs[f]? = some fn) (args:Array Value)
  (h : Calls P f args w fun e w' => ∃ v, e = .returned v ∧ wpList P ops Q rest (a.put N v) w') (hd : oi.dst = N := by rfl) (hg : oi.guard = none := by rfl) (hname : (fn.name == "runtime.NumGoroutine") = false := by kernel_rfl) (hb : fn.body.isSome = true := by rfl)
  (hop:oi.op=.call { callee:=.value (.func f),args:=asx,argTypes:=ts }:=by rfl) (hargs:asx.map a.eval=args:=by (try simp only [List.map_toArray,List.map_cons,List.map_nil]);first|done|rfl|(simp only [List.length_drop,List.length_take];rfl)) :
  wpList P ops Q (oi :: rest) a w:=goesL_ N hd hg hf hname hb args hop hargs h
theorem bE {W:World} (N:Tmp) (cs:Array Value) (t:TypeId)
  (h:∀ g,g=W.heap.size→∀ w1,w1.heap[g]? = some (.cells cs t (0,0))→Below W.heap.size W w1→wpList P ops Q rest (a.put o.dst (.pointer (some ⟨g,0,none⟩))) w1)
  (hd:o.dst=some N:=by rfl) (hg:o.guard=none:=by rfl) (hr:(execOp a.eval o).run P W=.ok (.value (.pointer (some ⟨W.heap.size,0,none⟩))) (W.alloc (.cells cs t (0,0))):=by first|(go_simp;done)|(go_simp;rfl)):wpList P ops Q (o :: rest) a W:=Q8b hg hd hr h
end
section
variable {w w0 w1 w2:World} {g g':Nat} {o:Obj}
theorem kB (b:Aside0 (w0.heap[g]? = some o)) (hb:Below w1.heap.size w1 w2) (h:w0.heap[g]? = some o→w1.heap[g]? = some o:=by intro h;(repeat (first|(with_reducible first|refine Q0c ?_ _|refine Q0d ?_|refine Q0b ?_ _)|refine Q2f ?_ (Aside0.out (by assumption)) _));exact h):Aside0 (w2.heap[g]? = some o):=⟨Q1p (h b.out) hb⟩
theorem kH (b:Aside0 (Below w.heap.size w w0)) (hb:Below w1.heap.size w1 w2) (h:Below w.heap.size w w0→Below w.heap.size w w1:=by intro h;repeat (first|(with_reducible first|exact h|apply Q14|apply Q21|apply Q2k|refine Q2x ?_ (Aside0.out (by assumption)))|exact h)):Aside0 (Below w.heap.size w w2):=⟨Q0j (h b.out) hb⟩
theorem kR {α:Type} {d:Kd α} {e base:Nat} {ok:Nat→Prop} {v:Value} {xs:List α} (b:Aside0 (Kd.R d e w0 base ok v xs)) (hb:Below w1.heap.size w1 w2) (h:Kd.R d e w0 base ok v xs→Kd.R d e w1 base ok v xs:=by intro h;(with_reducible repeat (first|apply Kd.Q10|apply Kd.Q11|apply Kd.Q2h));exact h):Aside0 (Kd.R d e w2 base ok v xs):=⟨Kd.Q40 (h b.out) hb⟩
theorem kG (b:Aside0 (Below w.heap.size w w0)) (hg:g=w1.heap.size) (h:Below w.heap.size w w0→Below w.heap.size w w1:=by intro h;repeat (first|(with_reducible first|exact h|apply Q14|apply Q21|apply Q2k|refine Q2x ?_ (Aside0.out (by assumption)))|exact h)):Aside0 (w.heap.size≤g):=⟨hg▸Q0h (h b.out)⟩
theorem kN (b:Aside0 (w0.heap[g]? = some o)) (hg:g'=w1.heap.size) (h:w0.heap[g]? = some o→w1.heap[g]? = some o:=by intro h;(repeat (first|(with_reducible first|refine Q0c ?_ _|refine Q0d ?_|refine Q0b ?_ _)|refine Q2f ?_ (Aside0.out (by assumption)) _));exact h):Aside0 (g≠g'):=⟨hg▸Nat.ne_of_lt (Q25 (h b.out))⟩
theorem kM (b:Aside0 (w0.heap[g]? = some o)) (hg:g'=w1.heap.size) (h:w0.heap[g]? = some o→w1.heap[g]? = some o:=by intro h;(repeat (first|(with_reducible first|refine Q0c ?_ _|refine Q0d ?_|refine Q0b ?_ _)|refine Q2f ?_ (Aside0.out (by assumption)) _));exact h):Aside0 (g'≠g):=⟨hg▸Nat.ne_of_gt (Q25 (h b.out))⟩
theorem dR {α:Type} {d:Kd α} {e base:Nat} {ok:Nat→Prop} {v:Value} {xs:List α} (b:Aside0 (Kd.R d e w base ok v xs)):Aside0 (Kd.R d e w.drew base ok v xs):=⟨Kd.Q2h b.out⟩
theorem dB (b:Aside0 (w.heap[g]? = some o)):Aside0 (w.drew.heap[g]? = some o):=⟨Q0d b.out⟩
theorem dH {B:Nat} (b:Aside0 (Below B w w1)):Aside0 (Below B w w1.drew):=⟨Q2k b.out⟩
theorem sC {α:Type} {d:Kd α} {A:Option Addr} {n:Nat} {xs:List α} (r:Aside0 (d.C w A n xs)) (b:Aside0 (Below w.heap.size w w0)) (h:Below w.heap.size w w0→Below w.heap.size w w1:=by intro h;repeat (first|(with_reducible first|exact h|apply Q14|apply Q21|apply Q2k|refine Q2x ?_ (Aside0.out (by assumption)))|exact h)):d.C w1 A n xs:=Kd.Q12 r.out (h b.out)
theorem sR {α:Type} {d:Kd α} {e base:Nat} {ok:Nat→Prop} {A:Option Addr} {n c:Nat} {xs:List α} (r:Aside0 (d.R e w0 base ok (.slice A n c) xs)) (h:d.C w0 A xs.length xs→d.C w1 A xs.length xs:=by intro h;(repeat (first|exact h|(with_reducible refine Kd.Q3m ?_ _)|(with_reducible refine Kd.Q3n ?_ _)|(with_reducible refine Kd.Q33 ?_)))):d.C w1 A xs.length xs:=h (Kd.Q0w r.out).2.2
variable {t:TypeId} {a b c d e f:Value}
theorem c1 (h:Aside0 (w.heap[g]? = some (.cells #[a] t (0,0)))):w.cell? ⟨g,0,none⟩=some a∧w.frozen? ⟨g,0,none⟩=false:=⟨(Q0v h.out 0).trans rfl,Q0k h.out 0⟩
theorem c2 (h:Aside0 (w.heap[g]? = some (.cells #[a,b] t (0,0)))):w.cell? ⟨g,0,none⟩=some a∧w.cell? ⟨g,1,none⟩=some b∧w.frozen? ⟨g,0,none⟩=false∧w.frozen? ⟨g,1,none⟩=false:=⟨(Q0v h.out 0).trans rfl,(Q0v h.out 1).trans rfl,Q0k h.out 0,Q0k h.out 1⟩
theorem c3 (h:Aside0 (w.heap[g]? = some (.cells #[a,b,c] t (0,0)))):w.cell? ⟨g,0,none⟩=some a∧w.cell? ⟨g,1,none⟩=some b∧w.cell? ⟨g,2,none⟩=some c∧w.frozen? ⟨g,0,none⟩=false∧w.frozen? ⟨g,1,none⟩=false∧w.frozen? ⟨g,2,none⟩=false:=⟨(Q0v h.out 0).trans rfl,(Q0v h.out 1).trans rfl,(Q0v h.out 2).trans rfl,Q0k h.out 0,Q0k h.out 1,Q0k h.out 2⟩
theorem bS {α β:Type} {x:Option α} {f:α→Option β} {r:β} (h:x.bind f=some r):∃ a,Aside0 (x=some a)∧f a=some r:=by
 obtain ⟨a,h1,h2⟩:=Option.bind_eq_some_iff.mp h
 exact ⟨a,⟨h1⟩,h2⟩
end
theorem rS {α:Sort _} {a b:α} (h:a=b:=by first|rfl|(simp;done)|(simp [*];done)):a=b:=h
theorem rE {α:Sort _} {a b:α} (h:a=b:=by first|rfl|(simp [Q24,Q23]<;>rfl)|(simp [*,Q24,Q23]<;>rfl)):a=b:=h
theorem pD {p:Prop} [Decidable p] (h:decide p=true:=by first|(with_reducible assumption)|assumption):p:=of_decide_eq_true h
theorem bC {w:World} {g i:Nat} {t:TypeId} {cs:Array Value} {v:Value} (h:Aside0 (w.heap[g]? = some (.cells cs t (0,0)))) (e:cs[i]? = some v:=by rfl):w.cell? ⟨g,i,none⟩=some v:=(Q0v h.out i).trans e
theorem hW {w w1:World} {p:Addr} {v:Value} (b:Aside0 (Below w.heap.size w w1)) (h:w.cell? p=some v):w1.cell? p=some v:=(b.out.cell (World.block_lt_of_cell? w _ h)).trans h
section
variable {P:Prop} [Decidable P] {α:Type} {G:Prop}
theorem iC {a b r:α} (H:(if P then a else b)=r) (y:decide P=true→a=r→G) (n:decide P=false→b=r→G):G:=by
 by_cases c:P
 ·exact y (decide_eq_true c) (by rwa [if_pos c] at H)
 ·exact n (decide_eq_false c) (by rwa [if_neg c] at H)
theorem iN {a:Option α} {r:α} (H:(if P then a else none)=some r) (y:decide P=true→a=some r→G):G:=iC H y (fun _ h=>by cases h)
end
theorem iE {x y:Int} [Decidable (x=y)] {α:Type} {G:Prop} {a b r:α} (H:(if x=y then a else b)=r) (p:(x==y)=true→(x != y)=false→a=r→G) (n:(x==y)=false→(x != y)=true→b=r→G):G:=by
 by_cases c:x=y
 ·exact p (beq_iff_eq.mpr c) (bne_eq_false_iff_eq.mpr c) (by rwa [if_pos c] at H)
 ·exact n (beq_eq_false_iff_ne.mpr c) (bne_iff_ne.mpr c) (by rwa [if_neg c] at H)
theorem iM {x y:Int} [Decidable (x=y)] {α:Type} {G:Prop} {a:Option α} {r:α} (H:(if x=y then a else none)=some r) (p:(x==y)=true→(x != y)=false→a=some r→G):G:=iE H p (fun _ _ h=>by cases h)
theorem iT {α:Type} {a b r:α} (H:(if true=true then a else b)=r):a=r:=H
theorem iF {α:Type} {a b r:α} (H:(if false=true then a else b)=r):b=r:=H
end Go.Proofs.Ytbonkedecfjmdaa.X

open Go Go.RowKit
namespace Go.Proofs.Ytbonkedecfjmdaa.X
set_option linter.unusedVariables false
set_option linter.unusedSimpArgs false
def a64lo (x y c:Int):Int:=((x.toNat+y.toNat+c.toNat) % 18446744073709551616:Nat)
def a64hi (x y c:Int):Int:=((x.toNat+y.toNat+c.toNat) / 18446744073709551616:Nat)
theorem Q2r (x y:Int) (w:World):(callFunc 54 #[.int .u64 x,.int .u64 y,.int .u64 0]).run Try.prog w =
  .ok (.value (.tuple #[.int .u64 (a64lo x y 0),.int .u64 (a64hi x y 0)])) w:=by rfl
theorem Q2p (x y:Int) (w:World):(callFunc 54 #[.int .u64 x,.int .u64 y,.int .u64 1]).run Try.prog w =
  .ok (.value (.tuple #[.int .u64 (a64lo x y 1),.int .u64 (a64hi x y 1)])) w:=by rfl
theorem add64 (x y:Int) (c:Int) (hc:decide (c≤1)=true) (w:World):(callFunc 54 #[.int .u64 x,.int .u64 y,.int .u64 c]).run Try.prog w =
  .ok (.value (.tuple #[.int .u64 (a64lo x y c),.int .u64 (a64hi x y c)])) w:=by
 have hc:=of_decide_eq_true hc
 match c,hc with
 | .ofNat 0,_=>rfl
 | .ofNat 1,_=>rfl
 | .ofNat (n+2),h=>exact absurd h (by simp;omega)
 | .negSucc n,_=>rfl
end Go.Proofs.Ytbonkedecfjmdaa.X

namespace Go.Proofs.Ytbonkedecfjmdaa.Pl
set_option linter.unusedVariables false
set_option linter.unusedSimpArgs false
open Go Go.RowKit Go.Proofs.YtbonkedecfjmdaaW.PrintWords Go.Proofs.YtbonkedecfjmdaaW.PrintLast Go.Proofs.YtbonkedecfjmdaaW.PrintMore
def intV (v:Value):Int:=match v with | .int _ n=>n|_=>0
theorem inf3:(Try.prog.info? 3).map (fun i=>(i.zero,i.size,i.bytes))=some (some (.int .i64 0),1,8):=by kernel_rfl
theorem Qfw (x:List (List Int)) (k:Nat) (h:k<x.length):x.getD k []=x[k]:=by simp [List.getD,List.getElem?_eq_getElem h]
theorem Qbx (w:World) (A:Option Addr) (x:List (List Int)) (hr:Kd.C (Kd.slice 3 (Kd.int .i64)) w A x.length x) (k:Nat) (hk:k<x.length) :
  ∃ ad A1 c1,A=some ad∧w.cell? (ad.add k)=some (.slice A1 x[k].length c1)∧x[k].length≤c1∧Kd.C (Kd.int .i64) w A1 x[k].length x[k]:=by
 obtain ⟨ad,cs,hA,_,hx,hc⟩:=Kd.Q7r hr [] (k:Int) (by omega) (by omega)
 obtain ⟨A1,c1,e1,hc1,hr1⟩:=hx
 subst e1
 have hc0:=hc 0 _ rfl
 have e0:(Int.toNat (k:Int))*(Kd.slice 3 (Kd.int IntKind.i64)).sz+0=k:=by
  have:(Kd.slice 3 (Kd.int IntKind.i64)).sz=1:=rfl
  rw [this];omega
 rw [e0] at hc0
 rw [show (Int.toNat (k:Int))=k by omega,Qfw x k hk] at hc0 hr1 hc1
 exact ⟨ad,A1,c1,hA,hc0,hc1,hr1⟩
theorem Q6p {P:Program} (w:World) (t u ty e:TypeId) (i:TypeInfo) (z:Value) (ht:P.underlying t=some (.slice e)) (hu:P.underlying u=some (.int .i64)) (hi:P.info? e=some i) (hz:i.zero=some z) (hs:0<i.size)
  (hby:i.bytes=8) (n:Nat) (h0:0<n) (hn:n≤17592186044416) :
  (Builtin.append_ #[t,u] ty #[.slice none 0 0,.int .i64 (n:Int)]).run P w=.ok (.slice (some ⟨w.heap.size,0,none⟩) n (grownCap w n 0 e)) (w.drew.alloc (.cells (Builtin.zeroCells z.cells n++Builtin.zeroCells z.cells (grownCap w n 0 e - n)) e)):=by
 have hn0:n≠0:=by omega
 have hw:IntKind.i64.wrap (n:Int)=(n:Int):=IntWalk.i64_in _ (by omega)
 have hneg:¬ ((n:Int)<0):=by omega
 have h8:¬ (281474976710656<(n:Int)*8):=by omega
 have h63':¬ (9223372036854775807<(n:Int)):=by omega
 have h48':¬ (281474976710656<Builtin.nextslicecap n 0*8):=by rw [nextslicecap_zero h0];omega
 have hsz:¬ (n*i.size=0):=by
  intro h
  rcases Nat.mul_eq_zero.1 h with h|h<;>omega
 have hsz0:i.size≠0:=by omega
 simp [Builtin.append_,run_underlying ht,run_underlying hu,sizeOf,typeInfo,zeroValue,hi,hz,hby,hw,hneg,h8,hn0,hsz0,h63',h48',Question.forced,newRow,grownCap,Builtin.firstCells,asInt,asIntOf]
 exact fun h=>absurd h hsz
theorem Qaz {ops:Array Oper} {rest:List Oper} {o:Oper} {a:Act} {Q:Exit→Act→World→Prop} {W:World} (hgd:o.guard=none) {N':Tmp} (hd:o.dst=some N') (x y:Operand) (ho:o.op=Op.call { callee:=Callee.builtin Builtin.append,args:=#[x,y],argTypes:=#[32,3] }) (n:Nat) (hx:a.eval x=.slice none 0 0) (hy:a.eval y=.int .i64 (n:Int)) (h0:0<n) (hn:n≤17592186044416)
  (h:∀ cap w1 cs,n≤cap→cap≤maxLen→cs.size=cap→w1.heap[W.heap.size]? = some (.cells cs 3 (0,0))→Below W.heap.size W w1→wpList Try.prog ops Q rest (a.put o.dst (.slice (some ⟨W.heap.size,0,none⟩) n cap)) w1):wpList Try.prog ops Q (o :: rest) a W:=by
 obtain ⟨i0,hi,hzz⟩:=Option.map_eq_some_iff.1 inf3
 simp only [Prod.mk.injEq] at hzz
 obtain ⟨hz0,hz1,hz2⟩:=hzz
 have hr:=Q6p (P:=Try.prog) W 32 3 o.type 3 i0 _ Try.underlying32 Try.underlying3 hi hz0 (by omega) hz2 n h0 hn
 have hcap:=grownCap_ge W n 0 3
 refine Kd.Q4t (v:=.slice (some ⟨W.heap.size,0,none⟩) n (grownCap W n 0 3)) (w1:=W.drew.alloc (.cells (Builtin.zeroCells (Value.cells (.int .i64 0)) n++Builtin.zeroCells (Value.cells (.int .i64 0)) (grownCap W n 0 3 - n)) 3)) hgd (by simp [execOp,ho,resolve,invoke,builtin,hx,hy,hr,Result.andThen]) (h _ _ _ hcap (grownCap_le_maxLen W n 0 3 (by unfold maxLen;omega)) ?_ (heap_alloc_new _ _) (Q14 (Q4z (Below.refl _ _)) _))
 simp only [Array.size_append,size_zeroCells]
 show n*1+(grownCap W n 0 3 - n)*1=_
 omega
set_option maxHeartbeats 8000000 in
set_option maxRecDepth 100000 in
theorem Qaq (n:Nat) (w:World) (hn:n≤17592186044416) :
  Calls Try.prog 64 #[.slice none 0 0,.int .i64 (n:Int)] w fun e w'=>∃ v,e=.returned v∧Kd.R (Kd.int .i64) 3 w' w.heap.size (fun _=>True) v []∧Below w.heap.size w w':=by
 have hnn:¬ (n:Int)<0:=by omega
 by_cases h0:0<n
 ·have hni:(n:Int)>0:=by omega
  go_enter Try.func64,Try.ntmps64
  go_wp2_with (first|((with_reducible refine Q1v (b:=.append) (xs:=#[.tmp 20,.tmp 21]) rfl ?_);refine Qaz ?hg (N':=22) ?hd (.tmp 20) (.tmp 21) ?ho n ?hx ?hy h0 hn ?_;(case hd=>rfl);(case hg=>rfl);(case ho=>rfl);(case hx=>rfl);(case hy=>rfl);intro cap w1 cs hcap hmax hsz hg hb))
  go_ret
  exact ⟨_,rfl,⟨fun _ _=>trivial,[],⟨rfl,.inr ⟨w.heap.size,cap,cs,rfl,Nat.le_refl _,hg,Nat.zero_le _,hmax,by rw [hsz];show cap=cap*1;omega,by simp⟩⟩,Reps.none _ _⟩,hb⟩
 ·obtain rfl:n=0:=by omega
  go_enter Try.func64,Try.ntmps64
  go_wp2
  go_ret
  exact ⟨_,rfl,Kd.Q3k _ _ _ _ _,Below.refl _ _⟩
theorem Q85 (ls:List (List Int)) (i:Nat) (hi:i<ls.length):(ls.take (i+1)).flatten=(ls.take i).flatten++ls[i]:=by
 rw [List.take_add_one,List.getElem?_eq_getElem hi,List.flatten_append]
 simp
theorem Qcl (ls:List (List Int)) (i:Nat):(ls.take i).flatten.length≤ls.flatten.length:=by
 conv=>rhs;rw [← List.take_append_drop i ls]
 rw [List.flatten_append,List.length_append]
 omega
def flN (ls:List (List Int)) (i:Nat):Nat:=(ls.take i).flatten.length
theorem Qdn (ls:List (List Int)) (i:Nat) (hi:i<ls.length):flN ls (i+1)=flN ls i+ls[i].length:=by
 unfold flN;rw [Q85 ls i hi,List.length_append]
theorem Qel (ls:List (List Int)) (i:Nat):flN ls i≤ls.flatten.length:=Qcl ls i
theorem Qil (ls:List (List Int)) (i:Nat) (h:ls.length≤i):flN ls i=ls.flatten.length:=by unfold flN;rw [List.take_of_length_le h]
set_option maxHeartbeats 8000000 in
set_option maxRecDepth 100000 in
theorem Q5d (A0:Option Addr) (c0:Nat) (ls:List (List Int)) (w:World) (hr:Kd.C (Kd.slice 3 (Kd.int .i64)) w A0 ls.length ls) (hl:ls.length≤17592186044416) (hn:ls.flatten.length<17592186044416) :
  Calls Try.prog 39 #[.slice A0 ls.length c0] w fun e w'=>∃ v,e=.returned v∧Kd.R (Kd.int .i64) 3 w' w.heap.size (fun _=>True) v ls.flatten∧Below w.heap.size w w':=by
 have hgrow:=Qaq (flN ls ls.length) w (by have:=Qel ls ls.length;omega)
 have HN:=Aside0.mk hn
 clear hn
 go_enter Try.func39,Try.ntmps39
 go_wp2
 go_loop [3,11] (fun n v=>∃ i:Nat,i≤ls.length∧v=.int .i64 i∧n=.int .i64 (flN ls i:Int)) (fun _ v=>ls.length - (intV v).toNat)
 case atStart=>exact ⟨0,by omega,rfl,rfl⟩
 case round =>
  obtain ⟨i,hi,rfl,rfl⟩:=hrel
  rcases Nat.lt_or_ge i ls.length with hlt|hge
  ·have hii:(i:Int)<(ls.length:Int):=by omega
   have hib:decide ((i:Int)<(ls.length:Int))=true:=decide_eq_true hii
   obtain ⟨ad,A1,c1,eA,hcell,hc1,hrow⟩:=Qbx w A0 ls hr i hlt
   subst eA
   have hft:=Qdn ls i hlt
   have hfl:=Qel ls (i+1)
   have hsm:flN ls i+ls[i].length<17592186044416:=by
    have:=HN.out
    omega
   have HFT:=Aside0.mk hft
   clear hft hfl hrow
   generalize ls[i].length=q at *
   generalize flN ls i=p at *
   go_wp2
   go_round
   case rel=>exact ⟨i+1,by omega,rfl,by rw [HFT.out];rfl⟩
   case measure=>simp [intV];omega
  ·have hii:¬ (i:Int)<(ls.length:Int):=by omega
   have hib:decide ((i:Int)<(ls.length:Int))=false:=decide_eq_false hii
   obtain rfl:i=ls.length:=by omega
   generalize flN ls ls.length=T at *
   go_wp2_with (go_at_call 64;refine hgrow.mono ?_;rintro e w1 ⟨v1,rfl,ho1,hb1⟩)
   go_loopw [6,27] (fun x v wr=>∃ i:Nat,i≤ls.length∧v=.int .i64 i∧Kd.R (Kd.int .i64) 3 wr w.heap.size (fun _=>True) x (ls.take i).flatten∧Below w.heap.size w wr) (fun _ v _=>ls.length - (intV v).toNat)
   case atStart=>exact ⟨0,by omega,rfl,ho1,hb1⟩
   case round =>
    clear ho1 hb1 hgrow
    obtain ⟨j,hj,rfl,ho,hB⟩:=hrel
    rcases Nat.lt_or_ge j ls.length with hjt|hje
    ·have hji:(j:Int)<(ls.length:Int):=by omega
     have hjb:decide ((j:Int)<(ls.length:Int))=true:=decide_eq_true hji
     obtain ⟨ad,A1,c1,eA,hcell,hc1,hrow⟩:=Qbx wr A0 ls (Kd.Q12 hr hB) j hjt
     subst eA
     have hft:=Q85 ls j hjt
     have hfl:=Qcl ls (j+1)
     have hsm:((ls.take j).flatten.length+ls[j].length)*8≤140737488355328:=by
      rw [hft,List.length_append] at hfl
      have:=HN.out
      omega
     have HFT:=Aside0.mk hft
     clear hft hfl
     generalize ls[j]=row at *
     generalize (ls.take j).flatten=acc at *
     go_wp2_with (first|((with_reducible refine Q1v (b:=.append) (xs:=#[.tmp 31,.tmp 32]) rfl ?_);at_builtin;refine Kd.Q3h (Kd.int .i64) (w0:=w) w.heap.size rfl (.tmp 31) (.tmp 32) 32 3 (.int .i64 0) 8 rfl Try.underlying32 inf3 rfl (by decide) (by omega) u6 acc row _ _ _ (fun _=>True) (fun _=>False) rfl rfl ho hrow (fun _ _ h=>h) (fun _ h=>h.elim) (fun _ _=>trivial) hB hB.size hsm ?_;intro v2 w2 ho2 hb2 hg2 hat2))
     go_roundw
     case rel=>exact ⟨j+1,by omega,rfl,by rw [HFT.out];exact ho2,hb2⟩
     case measure=>simp [intV];omega
    ·have hji:¬ (j:Int)<(ls.length:Int):=by omega
     have hjb:decide ((j:Int)<(ls.length:Int))=false:=decide_eq_false hji
     rw [List.take_of_length_le hje] at ho
     go_wp2
     go_ret
     exact ⟨_,rfl,ho,hB⟩
end Go.Proofs.Ytbonkedecfjmdaa.Pl

namespace Go.Proofs.Ytbonkedecfjmdaa.P
open Go.RowKit Go.Proofs.YtbonkedecfjmdaaW.PrintWords Go.Proofs.YtbonkedecfjmdaaW.PrintLast Go.Proofs.YtbonkedecfjmdaaW.PrintMore Go.Proofs.Ytbonkedecfjmdaa.X
attribute [local go_sem] Q2a Q2b Q2s Q2q Q1z Q1y Q19 Q2c Q2r Q2p add64
set_option linter.unusedVariables false
set_option linter.unusedSimpArgs false
def errW:Option Int→Value
 | none=>.nilIface
 | some c=>.iface 0 (.int .i64 c)
theorem Q24:errW none=.nilIface:=rfl
theorem Q23 (c:Int):errW (some c)=.iface 0 (.int .i64 c):=rfl
theorem info3:(Try.prog.info? 3).map (fun i=>(i.zero,i.size,i.bytes))=some (some (.int .i64 0),1,8):=by kernel_rfl
theorem info27:(Try.prog.info? 27).map (fun i=>(i.zero,i.size,i.bytes))=some (some (.agg #[(.int .i64 0),(.int .i64 0),(.int .i64 0)]),3,24):=by kernel_rfl
theorem info31:(Try.prog.info? 31).map (fun i=>(i.zero,i.size,i.bytes))=some (some (.slice none 0 0),1,24):=by kernel_rfl
theorem info32:(Try.prog.info? 32).map (fun i=>(i.zero,i.size,i.bytes))=some (some (.slice none 0 0),1,24):=by kernel_rfl
theorem info50:(Try.prog.info? 50).map (fun i=>(i.zero,i.size,i.bytes))=some (some (.agg #[(.int .i64 0),(.int .u64 0)]),2,16):=by kernel_rfl
theorem info109:(Try.prog.info? 109).map (fun i=>(i.zero,i.size,i.bytes))=some (some (.agg #[(.int .i64 0),(.int .i64 0),(.int .i64 0),(.int .i64 0),(.int .i64 0),(.int .i64 0),(.int .i64 0),(.int .i64 0),(.bool false),(.bool false)]),10,72):=by kernel_rfl
-- the values' own types
structure S27 where
 f0:Int
 f1:Int
 f2:Int
def z27:S27:=⟨(0:Int),(0:Int),(0:Int)⟩
def k27:Kd S27:=Kd.iso (Kd.pair (Kd.int .i64) (Kd.pair (Kd.int .i64) (Kd.int .i64))) (fun x:S27=>(x.f0,x.f1,x.f2))
theorem Q72 {w:World} {x:S27} {cs:List Value} (h:k27.K w x cs):cs=[.int .i64 x.f0,.int .i64 x.f1,.int .i64 x.f2]:=by
 obtain ⟨_,_,rfl,rfl,⟨_,_,rfl,rfl,rfl⟩⟩:=h
 exact rfl
theorem Q8h {w:World} {base:Nat} {ok:Nat→Prop} {x:S27} {cs:List Value} (h:k27.M w base ok x cs):cs=[.int .i64 x.f0,.int .i64 x.f1,.int .i64 x.f2]:=by
 obtain ⟨_,_,rfl,rfl,⟨_,_,rfl,rfl,rfl⟩⟩:=h
 exact rfl
theorem Qb8 (w:World) (x:S27)  : k27.K w x [.int .i64 x.f0,.int .i64 x.f1,.int .i64 x.f2]:=⟨[.int .i64 x.f0],[.int .i64 x.f1,.int .i64 x.f2],rfl,rfl,⟨[.int .i64 x.f1],[.int .i64 x.f2],rfl,rfl,rfl⟩⟩
theorem Q2o (w:World) (base:Nat) (ok:Nat→Prop) (x:S27)  : k27.M w base ok x [.int .i64 x.f0,.int .i64 x.f1,.int .i64 x.f2]:=⟨[.int .i64 x.f0],[.int .i64 x.f1,.int .i64 x.f2],rfl,rfl,⟨[.int .i64 x.f1],[.int .i64 x.f2],rfl,rfl,rfl⟩⟩
theorem Qh7 (W:World) (ok:Nat→Prop) (x:S27):Kd.FK k27 W ok x [.int .i64 x.f0,.int .i64 x.f1,.int .i64 x.f2]:=fun W2 _=>Qb8 W2 x
def Q0a (xs:List S27) (i:Int):S27:=xs.getD i.toNat z27
theorem Q2i {w:World} {A:Option Addr} {n:Nat} {xs:List S27} (h:Kd.C k27 w A n xs) (i:Int) (h0:0≤i) (h1:i<n):∃ ad ,A=some ad∧w.cell? (ad.add (i.toNat*3))=some (.int .i64 (Q0a xs i).f0)∧w.cell? ⟨(ad.add (i.toNat*3)).block,(ad.add (i.toNat*3)).off+1,none⟩=some (.int .i64 (Q0a xs i).f1)∧w.cell? ⟨(ad.add (i.toNat*3)).block,(ad.add (i.toNat*3)).off+2,none⟩=some (.int .i64 (Q0a xs i).f2):=by
 obtain ⟨ad,c,e,_,hK,aA⟩:=Kd.Q7r h z27 i h0 h1
 have hc:∀ j u,c[j]? = some u→w.cell? (ad.add (i.toNat*3+j))=some u:=aA
 obtain rfl:=Q72 hK
 exact ⟨ad,e,hc 0 _ rfl,by rw [← Q3b _ _ 1 (by omega)];exact hc 1 _ rfl,by rw [← Q3b _ _ 2 (by omega)];exact hc 2 _ rfl⟩
def Q0e (xs:List (List S27)) (i:Int):(List S27):=xs.getD i.toNat ([]:List S27)
theorem Q30 {w:World} {A:Option Addr} {n:Nat} {xs:List (List S27)} (h:Kd.C (Kd.slice 27 k27) w A n xs) (i:Int) (h0:0≤i) (h1:i<n):∃ ad A0 c0,A=some ad∧w.cell? (ad.add i.toNat)=some (.slice A0 (Q0e xs i).length c0)∧(Q0e xs i).length≤c0∧k27.C w A0 (Q0e xs i).length (Q0e xs i):=by
 obtain ⟨ad,c,e,_,hK,aA⟩:=Kd.Q7r h ([]:List S27) i h0 h1
 have hc:∀ j u,c[j]? = some u→w.cell? (ad.add (i.toNat*1+j))=some u:=aA
 obtain ⟨A0,c0,rfl,l0,g0⟩:=hK
 exact ⟨ad,A0,c0,e,by have hq:=hc 0 _ rfl;rwa [Nat.mul_one,Nat.add_zero] at hq,l0,g0⟩
def Q06 (xs:List (List Int)) (i:Int):(List Int):=xs.getD i.toNat ([]:List Int)
theorem Q3c {w:World} {A:Option Addr} {n:Nat} {xs:List (List Int)} (h:Kd.C (Kd.slice 3 (Kd.int .i64)) w A n xs) (i:Int) (h0:0≤i) (h1:i<n):∃ ad A0 c0,A=some ad∧w.cell? (ad.add i.toNat)=some (.slice A0 (Q06 xs i).length c0)∧(Q06 xs i).length≤c0∧(Kd.int .i64).C w A0 (Q06 xs i).length (Q06 xs i):=by
 obtain ⟨ad,c,e,_,hK,aA⟩:=Kd.Q7r h ([]:List Int) i h0 h1
 have hc:∀ j u,c[j]? = some u→w.cell? (ad.add (i.toNat*1+j))=some u:=aA
 obtain ⟨A0,c0,rfl,l0,g0⟩:=hK
 exact ⟨ad,A0,c0,e,by have hq:=hc 0 _ rfl;rwa [Nat.mul_one,Nat.add_zero] at hq,l0,g0⟩
structure S109 where
 f0:S27
 f1:S27
 f2:Int
 f3:Int
 f4:Bool
 f5:Bool
def z109:S109:=⟨z27,z27,(0:Int),(0:Int),false,false⟩
def k109:Kd S109:=Kd.iso (Kd.pair k27 (Kd.pair k27 (Kd.pair (Kd.int .i64) (Kd.pair (Kd.int .i64) (Kd.pair Kd.bool Kd.bool))))) (fun x:S109=>(x.f0,x.f1,x.f2,x.f3,x.f4,x.f5))
theorem Qbr {w:World} {x:S109} {cs:List Value} (h:k109.K w x cs):cs=[.int .i64 x.f0.f0,.int .i64 x.f0.f1,.int .i64 x.f0.f2,.int .i64 x.f1.f0,.int .i64 x.f1.f1,.int .i64 x.f1.f2,.int .i64 x.f2,.int .i64 x.f3,.bool x.f4,.bool x.f5]:=by
 obtain ⟨_,_,rfl,s0,⟨_,_,rfl,s3,⟨_,_,rfl,rfl,⟨_,_,rfl,rfl,⟨_,_,rfl,rfl,rfl⟩⟩⟩⟩⟩:=h
 obtain rfl:=Q72 s0
 obtain rfl:=Q72 s3
 exact rfl
theorem Qgf {w:World} {base:Nat} {ok:Nat→Prop} {x:S109} {cs:List Value} (h:k109.M w base ok x cs):cs=[.int .i64 x.f0.f0,.int .i64 x.f0.f1,.int .i64 x.f0.f2,.int .i64 x.f1.f0,.int .i64 x.f1.f1,.int .i64 x.f1.f2,.int .i64 x.f2,.int .i64 x.f3,.bool x.f4,.bool x.f5]:=by
 obtain ⟨_,_,rfl,s0,⟨_,_,rfl,s3,⟨_,_,rfl,rfl,⟨_,_,rfl,rfl,⟨_,_,rfl,rfl,rfl⟩⟩⟩⟩⟩:=h
 obtain rfl:=Q8h s0
 obtain rfl:=Q8h s3
 exact rfl
theorem Qfv (w:World) (x:S109)  : k109.K w x [.int .i64 x.f0.f0,.int .i64 x.f0.f1,.int .i64 x.f0.f2,.int .i64 x.f1.f0,.int .i64 x.f1.f1,.int .i64 x.f1.f2,.int .i64 x.f2,.int .i64 x.f3,.bool x.f4,.bool x.f5]:=⟨[.int .i64 x.f0.f0,.int .i64 x.f0.f1,.int .i64 x.f0.f2],[.int .i64 x.f1.f0,.int .i64 x.f1.f1,.int .i64 x.f1.f2,.int .i64 x.f2,.int .i64 x.f3,.bool x.f4,.bool x.f5],rfl,(Qb8 w x.f0 ),⟨[.int .i64 x.f1.f0,.int .i64 x.f1.f1,.int .i64 x.f1.f2],[.int .i64 x.f2,.int .i64 x.f3,.bool x.f4,.bool x.f5],rfl,(Qb8 w x.f1 ),⟨[.int .i64 x.f2],[.int .i64 x.f3,.bool x.f4,.bool x.f5],rfl,rfl,⟨[.int .i64 x.f3],[.bool x.f4,.bool x.f5],rfl,rfl,⟨[.bool x.f4],[.bool x.f5],rfl,rfl,rfl⟩⟩⟩⟩⟩
theorem Qc7 (w:World) (base:Nat) (ok:Nat→Prop) (x:S109)  : k109.M w base ok x [.int .i64 x.f0.f0,.int .i64 x.f0.f1,.int .i64 x.f0.f2,.int .i64 x.f1.f0,.int .i64 x.f1.f1,.int .i64 x.f1.f2,.int .i64 x.f2,.int .i64 x.f3,.bool x.f4,.bool x.f5]:=⟨[.int .i64 x.f0.f0,.int .i64 x.f0.f1,.int .i64 x.f0.f2],[.int .i64 x.f1.f0,.int .i64 x.f1.f1,.int .i64 x.f1.f2,.int .i64 x.f2,.int .i64 x.f3,.bool x.f4,.bool x.f5],rfl,(Q2o w base ok x.f0 ),⟨[.int .i64 x.f1.f0,.int .i64 x.f1.f1,.int .i64 x.f1.f2],[.int .i64 x.f2,.int .i64 x.f3,.bool x.f4,.bool x.f5],rfl,(Q2o w base ok x.f1 ),⟨[.int .i64 x.f2],[.int .i64 x.f3,.bool x.f4,.bool x.f5],rfl,rfl,⟨[.int .i64 x.f3],[.bool x.f4,.bool x.f5],rfl,rfl,⟨[.bool x.f4],[.bool x.f5],rfl,rfl,rfl⟩⟩⟩⟩⟩
theorem Qh5 (W:World) (ok:Nat→Prop) (x:S109):Kd.FK k109 W ok x [.int .i64 x.f0.f0,.int .i64 x.f0.f1,.int .i64 x.f0.f2,.int .i64 x.f1.f0,.int .i64 x.f1.f1,.int .i64 x.f1.f2,.int .i64 x.f2,.int .i64 x.f3,.bool x.f4,.bool x.f5]:=fun W2 _=>Qfv W2 x
def Q4e (xs:List S109) (i:Int):S109:=xs.getD i.toNat z109
theorem Qci {w:World} {A:Option Addr} {n:Nat} {xs:List S109} (h:Kd.C k109 w A n xs) (i:Int) (h0:0≤i) (h1:i<n):∃ ad ,A=some ad∧w.cell? (ad.add (i.toNat*10))=some (.int .i64 (Q4e xs i).f0.f0)∧w.cell? ⟨(ad.add (i.toNat*10)).block,(ad.add (i.toNat*10)).off+1,none⟩=some (.int .i64 (Q4e xs i).f0.f1)∧w.cell? ⟨(ad.add (i.toNat*10)).block,(ad.add (i.toNat*10)).off+2,none⟩=some (.int .i64 (Q4e xs i).f0.f2)∧w.cell? ⟨(ad.add (i.toNat*10)).block,(ad.add (i.toNat*10)).off+3,none⟩=some (.int .i64 (Q4e xs i).f1.f0)∧w.cell? ⟨(ad.add (i.toNat*10)).block,(ad.add (i.toNat*10)).off+4,none⟩=some (.int .i64 (Q4e xs i).f1.f1)∧w.cell? ⟨(ad.add (i.toNat*10)).block,(ad.add (i.toNat*10)).off+5,none⟩=some (.int .i64 (Q4e xs i).f1.f2)∧w.cell? ⟨(ad.add (i.toNat*10)).block,(ad.add (i.toNat*10)).off+6,none⟩=some (.int .i64 (Q4e xs i).f2)∧w.cell? ⟨(ad.add (i.toNat*10)).block,(ad.add (i.toNat*10)).off+7,none⟩=some (.int .i64 (Q4e xs i).f3)∧w.cell? ⟨(ad.add (i.toNat*10)).block,(ad.add (i.toNat*10)).off+8,none⟩=some (.bool (Q4e xs i).f4)∧w.cell? ⟨(ad.add (i.toNat*10)).block,(ad.add (i.toNat*10)).off+9,none⟩=some (.bool (Q4e xs i).f5):=by
 obtain ⟨ad,c,e,_,hK,aA⟩:=Kd.Q7r h z109 i h0 h1
 have hc:∀ j u,c[j]? = some u→w.cell? (ad.add (i.toNat*10+j))=some u:=aA
 obtain rfl:=Qbr hK
 exact ⟨ad,e,hc 0 _ rfl,by rw [← Q3b _ _ 1 (by omega)];exact hc 1 _ rfl,by rw [← Q3b _ _ 2 (by omega)];exact hc 2 _ rfl,by rw [← Q3b _ _ 3 (by omega)];exact hc 3 _ rfl,by rw [← Q3b _ _ 4 (by omega)];exact hc 4 _ rfl,by rw [← Q3b _ _ 5 (by omega)];exact hc 5 _ rfl,by rw [← Q3b _ _ 6 (by omega)];exact hc 6 _ rfl,by rw [← Q3b _ _ 7 (by omega)];exact hc 7 _ rfl,by rw [← Q3b _ _ 8 (by omega)];exact hc 8 _ rfl,by rw [← Q3b _ _ 9 (by omega)];exact hc 9 _ rfl⟩
structure S50 where
 f0:Int
 f1:Int
def z50:S50:=⟨(0:Int),(0:Int)⟩
def k50:Kd S50:=Kd.iso (Kd.pair (Kd.int .i64) (Kd.int .u64)) (fun x:S50=>(x.f0,x.f1))
theorem Qda {w:World} {x:S50} {cs:List Value} (h:k50.K w x cs):cs=[.int .i64 x.f0,.int .u64 x.f1]:=by
 obtain ⟨_,_,rfl,rfl,rfl⟩:=h
 exact rfl
theorem Qhk {w:World} {base:Nat} {ok:Nat→Prop} {x:S50} {cs:List Value} (h:k50.M w base ok x cs):cs=[.int .i64 x.f0,.int .u64 x.f1]:=by
 obtain ⟨_,_,rfl,rfl,rfl⟩:=h
 exact rfl
theorem Qhh (w:World) (x:S50)  : k50.K w x [.int .i64 x.f0,.int .u64 x.f1]:=⟨[.int .i64 x.f0],[.int .u64 x.f1],rfl,rfl,rfl⟩
theorem Q7z (w:World) (base:Nat) (ok:Nat→Prop) (x:S50)  : k50.M w base ok x [.int .i64 x.f0,.int .u64 x.f1]:=⟨[.int .i64 x.f0],[.int .u64 x.f1],rfl,rfl,rfl⟩
theorem Qih (W:World) (ok:Nat→Prop) (x:S50):Kd.FK k50 W ok x [.int .i64 x.f0,.int .u64 x.f1]:=fun W2 _=>Qhh W2 x
def Q2t (xs:List S50) (i:Int):S50:=xs.getD i.toNat z50
theorem Qbv {w:World} {A:Option Addr} {n:Nat} {xs:List S50} (h:Kd.C k50 w A n xs) (i:Int) (h0:0≤i) (h1:i<n):∃ ad ,A=some ad∧w.cell? (ad.add (i.toNat*2))=some (.int .i64 (Q2t xs i).f0)∧w.cell? ⟨(ad.add (i.toNat*2)).block,(ad.add (i.toNat*2)).off+1,none⟩=some (.int .u64 (Q2t xs i).f1):=by
 obtain ⟨ad,c,e,_,hK,aA⟩:=Kd.Q7r h z50 i h0 h1
 have hc:∀ j u,c[j]? = some u→w.cell? (ad.add (i.toNat*2+j))=some u:=aA
 obtain rfl:=Qda hK
 exact ⟨ad,e,hc 0 _ rfl,by rw [← Q3b _ _ 1 (by omega)];exact hc 1 _ rfl⟩
def Qeb (xs:List (List (List S27))) (i:Int):(List (List S27)):=xs.getD i.toNat ([]:List (List S27))
theorem Qir {w:World} {A:Option Addr} {n:Nat} {xs:List (List (List S27))} (h:Kd.C (Kd.slice 31 (Kd.slice 27 k27)) w A n xs) (i:Int) (h0:0≤i) (h1:i<n):∃ ad A0 c0,A=some ad∧w.cell? (ad.add i.toNat)=some (.slice A0 (Qeb xs i).length c0)∧(Qeb xs i).length≤c0∧(Kd.slice 27 k27).C w A0 (Qeb xs i).length (Qeb xs i):=by
 obtain ⟨ad,c,e,_,hK,aA⟩:=Kd.Q7r h ([]:List (List S27)) i h0 h1
 have hc:∀ j u,c[j]? = some u→w.cell? (ad.add (i.toNat*1+j))=some u:=aA
 obtain ⟨A0,c0,rfl,l0,g0⟩:=hK
 exact ⟨ad,A0,c0,e,by have hq:=hc 0 _ rfl;rwa [Nat.mul_one,Nat.add_zero] at hq,l0,g0⟩
def Qc2 (xs:List (List (List Int))) (i:Int):(List (List Int)):=xs.getD i.toNat ([]:List (List Int))
theorem Qis {w:World} {A:Option Addr} {n:Nat} {xs:List (List (List Int))} (h:Kd.C (Kd.slice 32 (Kd.slice 3 (Kd.int .i64))) w A n xs) (i:Int) (h0:0≤i) (h1:i<n):∃ ad A0 c0,A=some ad∧w.cell? (ad.add i.toNat)=some (.slice A0 (Qc2 xs i).length c0)∧(Qc2 xs i).length≤c0∧(Kd.slice 3 (Kd.int .i64)).C w A0 (Qc2 xs i).length (Qc2 xs i):=by
 obtain ⟨ad,c,e,_,hK,aA⟩:=Kd.Q7r h ([]:List (List Int)) i h0 h1
 have hc:∀ j u,c[j]? = some u→w.cell? (ad.add (i.toNat*1+j))=some u:=aA
 obtain ⟨A0,c0,rfl,l0,g0⟩:=hK
 exact ⟨ad,A0,c0,e,by have hq:=hc 0 _ rfl;rwa [Nat.mul_one,Nat.add_zero] at hq,l0,g0⟩
structure S25 where
 f0:(List (List S27))
 f1:(List (List Int))
 f2:(List (List Int))
def z25:S25:=⟨([]:List (List S27)),([]:List (List Int)),([]:List (List Int))⟩
def k25:Kd S25:=Kd.iso (Kd.pair (Kd.slice 31 (Kd.slice 27 k27)) (Kd.pair (Kd.slice 32 (Kd.slice 3 (Kd.int .i64))) (Kd.slice 32 (Kd.slice 3 (Kd.int .i64))))) (fun x:S25=>(x.f0,x.f1,x.f2))
theorem Q5w {w:World} {x:S25} {cs:List Value} (h:k25.K w x cs):∃ A0 c0 A1 c1 A2 c2,cs=[.slice A0 x.f0.length c0,.slice A1 x.f1.length c1,.slice A2 x.f2.length c2]∧x.f0.length≤c0∧(Kd.slice 27 k27).C w A0 x.f0.length x.f0∧x.f1.length≤c1∧(Kd.slice 3 (Kd.int .i64)).C w A1 x.f1.length x.f1∧x.f2.length≤c2∧(Kd.slice 3 (Kd.int .i64)).C w A2 x.f2.length x.f2:=by
 obtain ⟨_,_,rfl,⟨A0,c0,rfl,l0,g0⟩,⟨_,_,rfl,⟨A1,c1,rfl,l1,g1⟩,⟨A2,c2,rfl,l2,g2⟩⟩⟩:=h
 exact ⟨A0,c0,A1,c1,A2,c2,rfl,l0,g0,l1,g1,l2,g2⟩
theorem Qhn {w:World} {base:Nat} {ok:Nat→Prop} {x:S25} {cs:List Value} (h:k25.M w base ok x cs):∃ v0 v1 v2,cs=[v0,v1,v2]∧(Kd.slice 27 k27).R 31 w base ok v0 x.f0∧(Kd.slice 3 (Kd.int .i64)).R 32 w base ok v1 x.f1∧(Kd.slice 3 (Kd.int .i64)).R 32 w base ok v2 x.f2:=by
 obtain ⟨_,_,rfl,⟨v0,rfl,g0⟩,⟨_,_,rfl,⟨v1,rfl,g1⟩,⟨v2,rfl,g2⟩⟩⟩:=h
 exact ⟨v0,v1,v2,rfl,g0,g1,g2⟩
theorem Qgi (w:World) (x:S25) {A0:Option Addr} {c0:Nat} (l0:x.f0.length≤c0) (g0:(Kd.slice 27 k27).C w A0 x.f0.length x.f0) {A1:Option Addr} {c1:Nat} (l1:x.f1.length≤c1) (g1:(Kd.slice 3 (Kd.int .i64)).C w A1 x.f1.length x.f1) {A2:Option Addr} {c2:Nat} (l2:x.f2.length≤c2) (g2:(Kd.slice 3 (Kd.int .i64)).C w A2 x.f2.length x.f2):k25.K w x [.slice A0 x.f0.length c0,.slice A1 x.f1.length c1,.slice A2 x.f2.length c2]:=⟨[.slice A0 x.f0.length c0],[.slice A1 x.f1.length c1,.slice A2 x.f2.length c2],rfl,⟨A0,c0,rfl,l0,g0⟩,⟨[.slice A1 x.f1.length c1],[.slice A2 x.f2.length c2],rfl,⟨A1,c1,rfl,l1,g1⟩,⟨A2,c2,rfl,l2,g2⟩⟩⟩
theorem Qid (w:World) (base:Nat) (ok:Nat→Prop) (x:S25) {v0:Value} (g0:(Kd.slice 27 k27).R 31 w base ok v0 x.f0) {v1:Value} (g1:(Kd.slice 3 (Kd.int .i64)).R 32 w base ok v1 x.f1) {v2:Value} (g2:(Kd.slice 3 (Kd.int .i64)).R 32 w base ok v2 x.f2):k25.M w base ok x [v0,v1,v2]:=⟨[v0],[v1,v2],rfl,⟨v0,rfl,g0⟩,⟨[v1],[v2],rfl,⟨v1,rfl,g1⟩,⟨v2,rfl,g2⟩⟩⟩
theorem Qha {W:World} {ok:Nat→Prop} {x:S25} {cs:List Value} (h:Kd.FK k25 W ok x cs):∃ A0 c0 A1 c1 A2 c2,cs=[.slice A0 x.f0.length c0,.slice A1 x.f1.length c1,.slice A2 x.f2.length c2]∧x.f0.length≤c0∧Kd.F (Kd.slice 27 k27) W ok A0 x.f0.length x.f0∧x.f1.length≤c1∧Kd.F (Kd.slice 3 (Kd.int .i64)) W ok A1 x.f1.length x.f1∧x.f2.length≤c2∧Kd.F (Kd.slice 3 (Kd.int .i64)) W ok A2 x.f2.length x.f2:=by
 obtain ⟨A0,c0,A1,c1,A2,c2,rfl,l0,_,l1,_,l2,_⟩:=Q5w (Kd.Qab h)
 exact ⟨A0,c0,A1,c1,A2,c2,rfl,l0,(fun W' hW=>by obtain ⟨bA,cA,dA,eA,fA,gA,he,kA,hA,lA,iA,mA,jA⟩:=Q5w (h W' hW);injection (Option.some.inj (show some (Value.slice A0 x.f0.length c0)=some (Value.slice bA x.f0.length cA) from congrArg (fun l=>l[0]?) he)) with ha_ _ _;rw [ha_];exact hA),l1,(fun W' hW=>by obtain ⟨bA,cA,dA,eA,fA,gA,he,kA,hA,lA,iA,mA,jA⟩:=Q5w (h W' hW);injection (Option.some.inj (show some (Value.slice A1 x.f1.length c1)=some (Value.slice dA x.f1.length eA) from congrArg (fun l=>l[1]?) he)) with ha_ _ _;rw [ha_];exact iA),l2,(fun W' hW=>by obtain ⟨bA,cA,dA,eA,fA,gA,he,kA,hA,lA,iA,mA,jA⟩:=Q5w (h W' hW);injection (Option.some.inj (show some (Value.slice A2 x.f2.length c2)=some (Value.slice fA x.f2.length gA) from congrArg (fun l=>l[2]?) he)) with ha_ _ _;rw [ha_];exact jA)⟩
theorem Qik (W:World) (ok:Nat→Prop) (x:S25) {A0:Option Addr} {c0:Nat} (l0:x.f0.length≤c0) (g0:Kd.F (Kd.slice 27 k27) W ok A0 x.f0.length x.f0) {A1:Option Addr} {c1:Nat} (l1:x.f1.length≤c1) (g1:Kd.F (Kd.slice 3 (Kd.int .i64)) W ok A1 x.f1.length x.f1) {A2:Option Addr} {c2:Nat} (l2:x.f2.length≤c2) (g2:Kd.F (Kd.slice 3 (Kd.int .i64)) W ok A2 x.f2.length x.f2):Kd.FK k25 W ok x [.slice A0 x.f0.length c0,.slice A1 x.f1.length c1,.slice A2 x.f2.length c2]:=fun W2 hW=>Qgi W2 x l0 (g0 W2 hW) l1 (g1 W2 hW) l2 (g2 W2 hW)
def Q49 (xs:List S25) (i:Int):S25:=xs.getD i.toNat z25
theorem Qio {w:World} {A:Option Addr} {n:Nat} {xs:List S25} (h:Kd.C k25 w A n xs) (i:Int) (h0:0≤i) (h1:i<n):∃ ad A0 c0 A1 c1 A2 c2,A=some ad∧w.cell? (ad.add (i.toNat*3))=some (.slice A0 (Q49 xs i).f0.length c0)∧w.cell? ⟨(ad.add (i.toNat*3)).block,(ad.add (i.toNat*3)).off+1,none⟩=some (.slice A1 (Q49 xs i).f1.length c1)∧w.cell? ⟨(ad.add (i.toNat*3)).block,(ad.add (i.toNat*3)).off+2,none⟩=some (.slice A2 (Q49 xs i).f2.length c2)∧(Q49 xs i).f0.length≤c0∧(Kd.slice 27 k27).C w A0 (Q49 xs i).f0.length (Q49 xs i).f0∧(Q49 xs i).f1.length≤c1∧(Kd.slice 3 (Kd.int .i64)).C w A1 (Q49 xs i).f1.length (Q49 xs i).f1∧(Q49 xs i).f2.length≤c2∧(Kd.slice 3 (Kd.int .i64)).C w A2 (Q49 xs i).f2.length (Q49 xs i).f2:=by
 obtain ⟨ad,c,e,_,hK,aA⟩:=Kd.Q7r h z25 i h0 h1
 have hc:∀ j u,c[j]? = some u→w.cell? (ad.add (i.toNat*3+j))=some u:=aA
 obtain ⟨A0,c0,A1,c1,A2,c2,rfl,l0,g0,l1,g1,l2,g2⟩:=Q5w hK
 exact ⟨ad,A0,c0,A1,c1,A2,c2,e,hc 0 _ rfl,by rw [← Q3b _ _ 1 (by omega)];exact hc 1 _ rfl,by rw [← Q3b _ _ 2 (by omega)];exact hc 2 _ rfl,l0,g0,l1,g1,l2,g2⟩
end Go.Proofs.Ytbonkedecfjmdaa.P
