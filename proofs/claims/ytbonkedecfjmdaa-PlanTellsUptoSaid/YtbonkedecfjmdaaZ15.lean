/- Wide numbers: what the program's own functions answer, for any words. Points of the plane: which are points, to which side one turns, whether one lies between: what the program's functions answer. Two segments: what they have in common, plainly; what the program's functions along a line answer. Two segments: what the program's function answers. geom.On walked. No condition. Written for this claim by a program of this session (a turned copy of the print): Go functions as Lean functions, and that the Go code comes to just these answers; or a statement proved out of them. No condition. -/
import Derived.Test.YtbonkedecfjmdaaZ14
import Derived.Test.YtbonkedecfjmdaaZ13
import Derived.Laws.BitsLemmas
import Derived.Test.YtbonkedecfjmdaaZ2

namespace Go.Proofs.Ytbonkedecfjmdaa.WL
set_option linter.unusedVariables false
set_option linter.unusedSimpArgs false
open Go.RowKit Go.Proofs.Ytbonkedecfjmdaa.P Go.Proofs.Ytbonkedecfjmdaa.X Go.Proofs.YtbonkedecfjmdaaW.PrintWords Go.Proofs.YtbonkedecfjmdaaW.PrintLast Go.Proofs.YtbonkedecfjmdaaW.PrintMore
def hiw (x:Int):Int:=(x / 18446744073709551616+9223372036854775808) % 18446744073709551616 - 9223372036854775808
def low (x:Int):Int:=x % 18446744073709551616
theorem Q8f (x:Int) : -9223372036854775808≤hiw x∧hiw x≤9223372036854775807:=by unfold hiw;omega
theorem Q4u (x:Int):0≤low x∧low x<18446744073709551616:=by unfold low;omega
theorem Qip {h l:Int} (h1 : -9223372036854775808≤h) (h2:h≤9223372036854775807) (h3:0≤l) (h4:l<18446744073709551616):hiw (h*18446744073709551616+l)=h:=by unfold hiw;omega
theorem Qiq {h l:Int} (h3:0≤l) (h4:l<18446744073709551616):low (h*18446744073709551616+l)=l:=by unfold low;omega
theorem Qfb (x:Int):(x - (hiw x*18446744073709551616+low x)) % 340282366920938463463374607431768211456=0:=by unfold hiw low;omega
theorem Qh3 (x:Int):((hiw x*18446744073709551616+low x) - x) % 340282366920938463463374607431768211456=0:=by unfold hiw low;omega
theorem Qh2 {x y:Int} (h:(x - y) % 340282366920938463463374607431768211456=0):hiw x=hiw y∧low x=low y:=by
 constructor
 ·unfold hiw;omega
 ·unfold low;omega
theorem Qit {x y:Int}:(hiw x==hiw y&&(low x==low y))=true↔(x - y) % 340282366920938463463374607431768211456=0:=by
 simp only [Bool.and_eq_true,beq_iff_eq]
 unfold hiw low;omega
theorem wraps_u64 (n:Int) (h₀:0≤n) (h₁:n<2 ^ 64):IntKind.u64.wrap n=n:=by rw [u64w];omega
theorem and32 {x:Int} (h0:0≤x) (h1:x<18446744073709551616):Go.bits .and .u64 x 4294967295=x % 4294967296 :=
 bits_mask .u64 64 (by decide) wraps_u64 32 (by decide) x h0 h1
theorem mul64_arith (P Q R S:Int) :
  let t:=(Q+P / 4294967296)
  let w:=(t % 4294967296+R)
  (S+t / 4294967296+w / 4294967296)=(S*18446744073709551616+(Q+R)*4294967296+P) / 18446744073709551616:=by
 intro t w
 omega
theorem mulb32 {x y:Int} (h1:0≤x) (h2:x<4294967296) (h3:0≤y) (h4:y<4294967296):0≤x*y∧x*y≤18446744065119617025:=by
 have:=Int.mul_le_mul (show x≤4294967295 by omega) (show y≤4294967295 by omega) h3 (by decide)
 exact ⟨Int.mul_nonneg h1 h3,this⟩
theorem split4 (a1 a0 b1 b0:Int):(a1*4294967296+a0)*(b1*4294967296+b0)=a1*b1*18446744073709551616+(a1*b0+a0*b1)*4294967296+a0*b0:=by grind
theorem Qdb {a b:Int} (ha:0≤a) (ha':a<18446744073709551616) (hb:0≤b) (hb':b<18446744073709551616) :
  bits_Mul64.f a b=some (a*b / 18446744073709551616,a*b % 18446744073709551616):=by
 unfold bits_Mul64.f
 rw [and32 ha ha',and32 hb hb']
 have hprod:a*b=(a / 4294967296)*(b / 4294967296)*18446744073709551616+((a / 4294967296)*(b % 4294967296)+(a % 4294967296)*(b / 4294967296))*4294967296+(a % 4294967296)*(b % 4294967296):=by
  rw [← split4]
  congr 1<;>omega
 obtain ⟨s0,s1⟩:=mulb32 (x:=a / 4294967296) (y:=b / 4294967296) (by omega) (by omega) (by omega) (by omega)
 obtain ⟨q0,q1⟩:=mulb32 (x:=a / 4294967296) (y:=b % 4294967296) (by omega) (by omega) (by omega) (by omega)
 obtain ⟨r0,r1⟩:=mulb32 (x:=a % 4294967296) (y:=b / 4294967296) (by omega) (by omega) (by omega) (by omega)
 obtain ⟨p0,p1⟩:=mulb32 (x:=a % 4294967296) (y:=b % 4294967296) (by omega) (by omega) (by omega) (by omega)
 simp only [hprod]
 clear hprod
 generalize (a / 4294967296)*(b / 4294967296)=S at *
 generalize (a / 4294967296)*(b % 4294967296)=Q at *
 generalize (a % 4294967296)*(b / 4294967296)=R at *
 generalize (a % 4294967296)*(b % 4294967296)=P at *
 clear ha ha' hb hb'
 have key:=mul64_arith P Q R S
 simp only [] at key
 have w1:IntKind.u64.wrap P=P:=by rw [u64w];omega
 have w2:IntKind.u64.wrap Q=Q:=by rw [u64w];omega
 have w3:IntKind.u64.wrap R=R:=by rw [u64w];omega
 have w4:IntKind.u64.wrap S=S:=by rw [u64w];omega
 have w5:IntKind.u64.wrap (Q+P / 4294967296)=Q+P / 4294967296:=by rw [u64w];omega
 rw [w1,w2,w3,w4,w5,and32 (by omega) (by omega)]
 have w6:IntKind.u64.wrap ((Q+P / 4294967296) % 4294967296+R)=(Q+P / 4294967296) % 4294967296+R:=by rw [u64w];omega
 have w7:IntKind.u64.wrap (S+(Q+P / 4294967296) / 4294967296)=S+(Q+P / 4294967296) / 4294967296:=by rw [u64w];omega
 rw [w6,w7,u64w,u64w,key]
 congr 2
 omega
theorem Qfu {a b:Int} (h1 : -9223372036854775808≤a) (h2:a≤9223372036854775807) (h3 : -9223372036854775808≤b) (h4:b≤9223372036854775807) :
  Q42.f a b=some (hiw (a*b),low (a*b)):=by
 have key:∀ (u v p:Int),u*v=p→∀ (da db:Int),a=u - da*18446744073709551616→b=v - db*18446744073709551616→a*b=p - (da*b+db*a)*18446744073709551616 - da*db*340282366920938463463374607431768211456:=by
  intro u v p hp da db e1 e2
  have:u=a+da*18446744073709551616:=by omega
  have:v=b+db*18446744073709551616:=by omega
  subst u v p;grind
 unfold Q42.f
 rw [u64w a,u64w b,Qdb (by omega) (by omega) (by omega) (by omega)]
 simp only [Option.bind_some]
 by_cases ha:a<0
 ·by_cases hb:b<0
  ·rw [if_pos ha,if_pos hb]
   have k:=key (a % 18446744073709551616) (b % 18446744073709551616) _ rfl 1 1 (by omega) (by omega)
   generalize (a % 18446744073709551616)*(b % 18446744073709551616)=p at *
   generalize a*b=m at *
   rw [u64w,u64w]
   unfold hiw low wrap64
   congr 2<;>omega
  ·rw [if_pos ha,if_neg hb]
   have k:=key (a % 18446744073709551616) (b % 18446744073709551616) _ rfl 1 0 (by omega) (by omega)
   generalize (a % 18446744073709551616)*(b % 18446744073709551616)=p at *
   generalize a*b=m at *
   rw [u64w]
   unfold hiw low wrap64
   congr 2<;>omega
 ·by_cases hb:b<0
  ·rw [if_neg ha,if_pos hb]
   have k:=key (a % 18446744073709551616) (b % 18446744073709551616) _ rfl 0 1 (by omega) (by omega)
   generalize (a % 18446744073709551616)*(b % 18446744073709551616)=p at *
   generalize a*b=m at *
   rw [u64w]
   unfold hiw low wrap64
   congr 2<;>omega
  ·rw [if_neg ha,if_neg hb]
   have k:=key (a % 18446744073709551616) (b % 18446744073709551616) _ rfl 0 0 (by omega) (by omega)
   generalize (a % 18446744073709551616)*(b % 18446744073709551616)=p at *
   generalize a*b=m at *
   unfold hiw low wrap64
   congr 2<;>omega
theorem Qim {a:Int} (h1 : -9223372036854775808≤a) (h2:a≤9223372036854775807):Q7l.f a=some (hiw a,low a):=by
 unfold Q7l.f hiw low;rw [u64w];congr 2;omega
theorem Qf2 (x y:Int):Q45.f (hiw x) (low x) (hiw y) (low y)=some (cmp3 (off x) (off y)):=by
 have hx:=Q4u x
 have hy:=Q4u y
 have ex:off x=(hiw x+9223372036854775808)*18446744073709551616+low x:=by unfold off hiw low;omega
 have ey:off y=(hiw y+9223372036854775808)*18446744073709551616+low y:=by unfold off hiw low;omega
 unfold Q45.f cmp3
 rw [ex,ey]
 generalize hiw x=a at *
 generalize low x=b at *
 generalize hiw y=c at *
 generalize low y=d at *
 clear ex ey
 by_cases h:(a==c&&(b==d))=true
 ·rw [if_pos h]
  simp only [Bool.and_eq_true,beq_iff_eq] at h
  rw [if_neg (by omega),if_neg (by omega)]
 ·rw [if_neg h]
  simp only [Bool.and_eq_true,beq_iff_eq] at h
  by_cases h1:a<c
  ·rw [if_pos h1,if_pos (by omega)]
  ·rw [if_neg h1]
   by_cases h2:a=c
   ·rw [if_pos h2]
    by_cases h3:b<d
    ·rw [if_pos h3,if_pos (by omega)]
    ·rw [if_neg h3,if_neg (by omega),if_pos (by omega)]
   ·rw [if_neg h2,if_neg (by omega),if_pos (by omega)]
theorem Q99 (x:Int):Q3q.f (hiw x) (low x)=some (cmp3 (off x) (off 0)):=by
 unfold Q3q.f
 have:=Qf2 x 0
 rw [show hiw 0=0 by decide,show low 0=0 by decide] at this
 rw [this];rfl
theorem Qe0 {x:Int} (h1 : -170141183460469231731687303715884105728≤x) (h2:x<170141183460469231731687303715884105728):cmp3 (off x) (off 0)=cmp3 x 0:=by
 unfold cmp3 off;split<;>split<;>first|rfl|omega|(split<;>first|rfl|omega|(split<;>first|rfl|omega))
theorem a64 {x y c:Int} (hx:0≤x) (hy:0≤y) (hc:0≤c):a64lo x y c=(x+y+c) % 18446744073709551616∧a64hi x y c=(x+y+c) / 18446744073709551616:=by
 unfold a64lo a64hi;omega
abbrev num (x:Int):S50:=⟨hiw x,low x⟩
theorem Qe9:∀ (n:Nat) (ys:List Int) (i:Nat) (x:Int),i+n=ys.length→ys.length<9000000000000000000 →
  Ev (fun k=>Q1l.l0 k (ys.map num) (ys.length:Int) (i:Int) (hiw x) (low x)) (hiw (x+(ys.drop i).sum),low (x+(ys.drop i).sum)):=by
 intro n
 induction n with
 | zero =>
  intro ys i x hi hl
  rw [List.drop_of_length_le (by omega)]
  refine Ev.step (f:=fun _=>some (hiw x,low x)) (fun k=>by simp only [Q1l.l0];rw [if_neg (by omega)]) ?_
  simp only [List.sum_nil,Int.add_zero]
  exact Ev.now _
 | succ n ih =>
  intro ys i x hi hl
  have hA:i<ys.length:=by omega
  have hrd:Q2t (ys.map num) (i:Int)=num ys[i]:=by
   unfold Q2t;rw [List.getD_eq_getElem?_getD,Int.toNat_natCast,List.getElem?_map,List.getElem?_eq_getElem hA];rfl
  have lx:=Q4u x
  have ly:=Q4u ys[i]
  refine Ev.step (f:=fun k=>Q1l.l0 k (ys.map num) (ys.length:Int) ((i+1:Nat):Int) (hiw (x+ys[i])) (low (x+ys[i]))) (fun k => ?_) ?_
  ·simp only [Q1l.l0]
   rw [hrd,if_pos (by omega),if_pos (by omega),if_pos (by rw [List.length_map];omega),Q29 i (by omega)]
   generalize ys[i]=y at *
   by_cases hz:(((num y).f0)==0&&(((num y).f1)==0))=true
   ·rw [if_pos hz]
    have h0:hiw y=0∧low y=0:=by simpa using hz
    have e:hiw (x+y)=hiw x∧low (x+y)=low x:=by
     unfold hiw low at *;omega
    rw [e.1,e.2]
   ·rw [if_neg hz]
    obtain ⟨e1,e2⟩:=a64 lx.1 ly.1 (Int.le_refl 0)
    show (if a64hi (low x) (low y) 0≤1 then Q1l.l0 k _ _ _ (wrap64 (a64lo (IntKind.u64.wrap (hiw x)) (IntKind.u64.wrap (hiw y)) (a64hi (low x) (low y) 0))) (a64lo (low x) (low y) 0) else none)=_
    rw [e1,e2,u64w,u64w]
    obtain ⟨e3,_⟩:=a64 (x:=hiw x % 18446744073709551616) (y:=hiw y % 18446744073709551616) (c:=(low x+low y+0) / 18446744073709551616) (by omega) (by omega) (by omega)
    rw [e3,if_pos (by omega)]
    have g1:wrap64 ((hiw x % 18446744073709551616+hiw y % 18446744073709551616+(low x+low y+0) / 18446744073709551616) % 18446744073709551616)=hiw (x+y):=by
     unfold wrap64 hiw low;omega
    have g2:(low x+low y+0) % 18446744073709551616=low (x+y):=by unfold low;omega
    rw [g1,g2]
  ·have:=ih ys (i+1) (x+ys[i]) (by omega) hl
   rw [List.drop_eq_getElem_cons hA,List.sum_cons,← Int.add_assoc]
   exact this
theorem Qdg (x:Int) (ys:List Int) (h:ys.length<9000000000000000000):Ev (fun k=>Q1l.f k (hiw x) (low x) (ys.map num)) (hiw (x+ys.sum),low (x+ys.sum)):=by
 have:=Qe9 ys.length ys 0 x (by omega) h
 refine Ev.congr (f:=fun k=>Q1l.l0 k (ys.map num) (ys.length:Int) ((0:Nat):Int) (hiw x) (low x)) (fun k=>by unfold Q1l.f;rw [List.length_map];rfl) ?_
 exact this
theorem Q9c (x y:Int):Ev (fun k=>Q1l.f k (hiw x) (low x) ([num y]:List S50)) (hiw (x+y),low (x+y)):=by
 have:=Qdg x [y] (by simp)
 simpa using this
theorem Qh0 {x:Int} (h0:0≤x) (h1:x<18446744073709551616):Go.bits .xor .u64 18446744073709551615 x=18446744073709551615 - x:=by
 obtain ⟨n,rfl⟩:=Int.eq_ofNat_of_zero_le h0
 unfold Go.bits
 have e:(BitVec.ofInt IntKind.u64.bits 18446744073709551615 ^^^ BitVec.ofInt IntKind.u64.bits (n:Int)) = ~~~ (BitVec.ofNat 64 n):=by
  show BitVec.ofInt 64 18446744073709551615 ^^^ BitVec.ofInt 64 (n:Int)=_
  rw [BitVec.ofInt_natCast,show BitVec.ofInt 64 18446744073709551615=BitVec.allOnes 64 by decide,BitVec.allOnes_xor]
 simp only [e]
 rw [u64w]
 have:(~~~ (BitVec.ofNat 64 n)).toNat=18446744073709551615 - n:=by
  rw [BitVec.toNat_not,BitVec.toNat_ofNat];omega
 show (((~~~ (BitVec.ofNat 64 n)).toNat:Nat):Int) % 18446744073709551616=_
 rw [this];omega
theorem b64 {x:Int} (h:(Lit.int .i64 x).wf=true) : -9223372036854775808≤x∧x≤9223372036854775807:=by
 simpa [Lit.wf,IntKind.min,IntKind.max,IntKind.signed,IntKind.bits] using h
theorem bu64 {x:Int} (h:(Lit.int .u64 x).wf=true):0≤x∧x<18446744073709551616:=by
 have:0≤x∧x≤18446744073709551615:=by simpa [Lit.wf,IntKind.min,IntKind.max,IntKind.signed,IntKind.bits] using h
 omega
theorem b32 {x:Int} (h:(Lit.int .i32 x).wf=true) : -2147483648≤x∧x≤2147483647:=by
 simpa [Lit.wf,IntKind.min,IntKind.max,IntKind.signed,IntKind.bits] using h
theorem Qfz (l:List Int) (hl:l.length<9000000000000000000) (hr:∀ x∈l,-9223372036854775808≤x∧x≤9223372036854775807):∀ (n i:Nat) (x:Int),i+2*n=l.length →
  Ev (fun k=>Q1n.l0 k l (i:Int) (hiw x) (low x)) (hiw (x+dotS (l.drop i)),low (x+dotS (l.drop i)),0):=by
 intro n
 induction n with
 | zero =>
  intro i x hi
  rw [List.drop_of_length_le (by omega)]
  refine Ev.step (f:=fun _=>some (hiw x,low x,0)) (fun k=>by simp only [Q1n.l0];rw [if_neg (by omega)]) ?_
  simp only [dotS,Int.add_zero]
  exact Ev.now _
 | succ n ih =>
  intro i x hi
  have hA:i<l.length:=by omega
  have hB:i+1<l.length:=by omega
  have ra:=hr _ (List.getElem_mem hA)
  have rb:=hr _ (List.getElem_mem hB)
  have e2:wrap64 ((i:Int)+2)=((i+2:Nat):Int):=by unfold wrap64;omega
  have q1:(i:Int)<(l.length:Int):=by omega
  have q2:((i+1:Nat):Int)<(l.length:Int):=by omega
  refine Ev.step (f:=fun k=>(Q1l.f k (hiw x) (low x) ([num (l[i]*l[i+1])]:List S50)).bind fun bt170=>(Q1n.l0 k l ((i+2:Nat):Int) bt170.1 bt170.2)) (fun k => ?_) ?_
  ·simp only [Q1n.l0]
   rw [Q29 i (by omega),if_pos q1,if_pos (by omega),if_pos (by omega),if_pos q2,Q6b l i hA,Q6b l (i+1) hB,Qfu ra.1 ra.2 rb.1 rb.2,e2]
   rfl
  ·refine Ev.bind (Q9c _ _) ?_
   have:=ih (i+2) (x+l[i]*l[i+1]) (by omega)
   rw [List.drop_eq_getElem_cons hA,List.drop_eq_getElem_cons hB]
   simp only [dotS]
   rw [← Int.add_assoc]
   exact this
theorem Qbh {l:List Int} (hl:l.length<9000000000000000000) (hr:∀ x∈l,-9223372036854775808≤x∧x≤9223372036854775807) (he:l.length % 2=0) :
  Ev (fun k=>Q1n.f k l) (hiw (dotS l),low (dotS l),0):=by
 have:=Qfz l hl hr (l.length / 2) 0 0 (by omega)
 rw [List.drop_zero,Int.zero_add] at this
 refine Ev.congr (f:=fun k=>Q1n.l0 k l ((0:Nat):Int) (hiw 0) (low 0)) (fun k => ?_) this
 unfold Q1n.f;rw [if_pos (by omega)];rfl
end Go.Proofs.Ytbonkedecfjmdaa.WL

namespace Go.Proofs.Ytbonkedecfjmdaa.G
set_option linter.unusedVariables false
set_option linter.unusedSimpArgs false
open Go.RowKit Go.Proofs.Ytbonkedecfjmdaa.P Go.Proofs.Ytbonkedecfjmdaa.X Go.Proofs.Ytbonkedecfjmdaa.WL Go.Proofs.YtbonkedecfjmdaaW.PrintWords Go.Proofs.YtbonkedecfjmdaaW.PrintLast Go.Proofs.YtbonkedecfjmdaaW.PrintMore
abbrev Pt:=S27
def rt (p:Pt):Bool:=decide (p.f2=0 ∧ -2147483648≤p.f0∧p.f0≤2147483647 ∧ -2147483648≤p.f1∧p.f1≤2147483647)
theorem Q3e {p:Pt}:rt p=true↔p.f2=0 ∧ -2147483648≤p.f0∧p.f0≤2147483647 ∧ -2147483648≤p.f1∧p.f1≤2147483647:=by unfold rt;simp
theorem rdp (l:List Pt) (i:Nat) (h:i<l.length):Q0a l (i:Int)=l[i]:=by
 unfold Q0a;rw [List.getD_eq_getElem?_getD,Int.toNat_natCast,List.getElem?_eq_getElem h];rfl
theorem Qbm (l:List Pt) (hl:l.length≤9223372036854775807):∀ (n i:Nat),i+n=l.length→Ev (fun k=>Q04.l0 k l (l.length:Int) (i:Int)) ((l.drop i).all rt):=by
 intro n
 induction n with
 | zero =>
  intro i hi
  rw [List.drop_of_length_le (by omega)]
  exact Ev.step (f:=fun _=>some true) (fun k=>by simp only [Q04.l0];rw [if_neg (by omega)]) (Ev.now _)
 | succ n ih =>
  intro i hi
  have hA:i<l.length:=by omega
  rw [List.drop_eq_getElem_cons hA,List.all_cons]
  have I:=ih (i+1) (by omega)
  have q1:(i:Int)<(l.length:Int):=by omega
  by_cases hp:rt l[i]=true
  ·rw [hp,Bool.true_and]
   obtain ⟨h1,h2,h3,h4,h5⟩:=Q3e.1 hp
   refine Ev.step (f:=fun k=>Q04.l0 k l (l.length:Int) ((i+1:Nat):Int)) (fun k => ?_) I
   simp only [Q04.l0]
   rw [if_pos q1,if_pos (by omega),if_pos q1,rdp l i hA,if_pos h1,if_neg (by omega),if_neg (by omega),if_neg (by omega),if_neg (by omega),Q29 i (by omega)]
  ·rw [Bool.eq_false_iff.2 hp,Bool.false_and]
   refine Ev.step (f:=fun _=>some false) (fun k => ?_) (Ev.now _)
   rw [Q3e] at hp
   simp only [Q04.l0]
   rw [if_pos q1,if_pos (by omega),if_pos q1,rdp l i hA]
   by_cases h1:l[i].f2=0
   ·rw [if_pos h1]
    by_cases h2:l[i].f0 < -2147483648
    ·rw [if_pos h2]
    ·rw [if_neg h2]
     by_cases h3:l[i].f0>2147483647
     ·rw [if_pos h3]
     ·rw [if_neg h3]
      by_cases h4:l[i].f1 < -2147483648
      ·rw [if_pos h4]
      ·rw [if_neg h4,if_pos (by omega)]
   ·rw [if_neg h1]
theorem Q4w (l:List Pt) (hl:l.length≤9223372036854775807):Ev (fun k=>Q04.f k l) (l.all rt):=by
 have:=Qbm l hl l.length 0 (by omega)
 exact Ev.congr (f:=fun k=>Q04.l0 k l (l.length:Int) ((0:Nat):Int)) (fun k=>by unfold Q04.f;rfl) this
def cross (a b c:Pt):Int:=(b.f0 - a.f0)*(c.f1 - a.f1) - (b.f1 - a.f1)*(c.f0 - a.f0)
def side (a b c:Pt):Int:=cmp3 (cross a b c) 0
theorem mulb33 {x y:Int} (h1 : -4294967296≤x) (h2:x≤4294967296) (h3 : -4294967296≤y) (h4:y≤4294967296) : -18446744073709551616≤x*y∧x*y≤18446744073709551616:=by
 have key:∀ u v:Int,0≤u→u≤4294967296→0≤v→v≤4294967296→0≤u*v∧u*v≤18446744073709551616:=fun u v a b c d =>
  ⟨Int.mul_nonneg a c,by have:=Int.mul_le_mul b d c (by decide);exact this⟩
 by_cases hx:0≤x<;>by_cases hy:0≤y
 ·have:=key x y hx h2 hy h4;omega
 ·have:=key x (-y) hx h2 (by omega) (by omega);rw [Int.mul_neg] at this;omega
 ·have:=key (-x) y (by omega) (by omega) hy h4;rw [Int.neg_mul] at this;omega
 ·have:=key (-x) (-y) (by omega) (by omega) (by omega) (by omega);rw [Int.neg_mul_neg] at this;omega
theorem Q8z {a b c:Pt} (ha:rt a=true) (hb:rt b=true) (hc:rt c=true) :
  (-18446744073709551616≤(b.f0 - a.f0)*(c.f1 - a.f1)∧(b.f0 - a.f0)*(c.f1 - a.f1)≤18446744073709551616)∧(-18446744073709551616≤(b.f1 - a.f1)*(c.f0 - a.f0)∧(b.f1 - a.f1)*(c.f0 - a.f0)≤18446744073709551616):=by
 obtain ⟨_,a1,a2,a3,a4⟩:=Q3e.1 ha
 obtain ⟨_,b1,b2,b3,b4⟩:=Q3e.1 hb
 obtain ⟨_,c1,c2,c3,c4⟩:=Q3e.1 hc
 exact ⟨mulb33 (by omega) (by omega) (by omega) (by omega),mulb33 (by omega) (by omega) (by omega) (by omega)⟩
theorem Q6l {a b c:Pt} (ha:rt a=true) (hb:rt b=true) (hc:rt c=true):Ev (fun k=>Q2w.f k a.f0 a.f1 a.f2 b.f0 b.f1 b.f2 c.f0 c.f1 c.f2) (side a b c):=by
 obtain ⟨_,a1,a2,a3,a4⟩:=Q3e.1 ha
 obtain ⟨_,b1,b2,b3,b4⟩:=Q3e.1 hb
 obtain ⟨_,c1,c2,c3,c4⟩:=Q3e.1 hc
 obtain ⟨⟨m1,m2⟩,m3,m4⟩:=Q8z ha hb hc
 unfold Q2w.f
 rw [Q2u (x:=b.f0 - a.f0) (by omega) (by omega),Q2u (x:=c.f1 - a.f1) (by omega) (by omega),Q2u (x:=a.f1 - b.f1) (by omega) (by omega),Q2u (x:=c.f0 - a.f0) (by omega) (by omega)]
 have D:=Qbh (l:=[b.f0 - a.f0,c.f1 - a.f1,a.f1 - b.f1,c.f0 - a.f0]) (by simp) (by
  intro x hx
  simp only [List.mem_cons,List.not_mem_nil,or_false] at hx
  rcases hx with rfl|rfl|rfl|rfl<;>omega) (by simp)
 have e:dotS [b.f0 - a.f0,c.f1 - a.f1,a.f1 - b.f1,c.f0 - a.f0]=cross a b c:=by
  simp only [dotS,cross]
  rw [show a.f1 - b.f1 = -(b.f1 - a.f1) by omega,Int.neg_mul]
  generalize (b.f0 - a.f0)*(c.f1 - a.f1)=X
  generalize (b.f1 - a.f1)*(c.f0 - a.f0)=Y
  omega
 rw [e] at D
 refine Ev.bind D ?_
 rw [show Q3q.f (hiw (cross a b c)) (low (cross a b c))=some (side a b c) by
  rw [Q99,Qe0 (by unfold cross;omega) (by unfold cross;omega)];rfl]
 exact Ev.now _
theorem Qfy {x y:Int} (hx : -18446744073709551616≤x) (hx':x≤18446744073709551616) (hy : -18446744073709551616≤y) (hy':y≤18446744073709551616):cmp3 (off x) (off y)=cmp3 (x - y) 0:=by
 unfold cmp3 off;split<;>split<;>first|rfl|omega|(split<;>first|rfl|omega|(split<;>first|rfl|omega))
def onB (p a b:Pt):Bool:=rt p&&(rt a&&(rt b&&decide (cross a b p=0∧(min a.f0 b.f0≤p.f0∧p.f0≤max a.f0 b.f0)∧(min a.f1 b.f1≤p.f1∧p.f1≤max a.f1 b.f1))))
theorem side0 {a b c:Pt}:side a b c=0↔cross a b c=0:=by unfold side;rw [Q91]
theorem Q4y (a b c:Pt):cross b a c = -cross a b c:=by unfold cross;grind
theorem Q6g (p a b:Pt):onB p a b=onB p b a:=by
 unfold onB
 have:=Q4y a b p
 rw [Bool.eq_iff_iff]
 simp only [Bool.and_eq_true,decide_eq_true_eq,Int.min_comm b.f0,Int.max_comm b.f0,Int.min_comm b.f1,Int.max_comm b.f1]
 constructor<;>(rintro ⟨h1,h2,h3,h4,h5⟩;exact ⟨h1,h3,h2,by omega,h5⟩)

def key (p:Pt):Int:=p.f0*4294967296+p.f1
theorem key_inj {p q:Pt} (hp:rt p=true) (hq:rt q=true) (h:key p=key q):p=q:=by
 obtain ⟨a0,a1,a2,a3,a4⟩:=Q3e.1 hp
 obtain ⟨b0,b1,b2,b3,b4⟩:=Q3e.1 hq
 unfold key at h
 cases p;cases q
 simp only at *
 congr 1<;>omega
theorem Qcb {a b:Pt} (ha:rt a=true) (hb:rt b=true):Q4b.f a.f0 a.f1 a.f2 b.f0 b.f1 b.f2=some (decide (key a<key b)):=by
 obtain ⟨a0,a1,a2,a3,a4⟩:=Q3e.1 ha
 obtain ⟨b0,b1,b2,b3,b4⟩:=Q3e.1 hb
 unfold Q4b.f key
 by_cases h1:a.f0<b.f0
 ·rw [if_pos h1,show decide (a.f0*4294967296+a.f1<b.f0*4294967296+b.f1)=true by simp;omega]
 ·rw [if_neg h1]
  by_cases h2:a.f0=b.f0
  ·rw [if_pos h2];congr 1;rw [decide_eq_decide];omega
  ·rw [if_neg h2,show decide (a.f0*4294967296+a.f1<b.f0*4294967296+b.f1)=false by simp;omega]
def touch (lo hi:Int):Int:=if lo=hi then 1 else if lo<hi then 3 else 0
theorem Q8m {a b:Pt} (ha:rt a=true) (hb:rt b=true):∃ lo hi:Pt,Q38.f a.f0 a.f1 a.f2 b.f0 b.f1 b.f2=some (lo.f0,lo.f1,lo.f2,hi.f0,hi.f1,hi.f2)∧rt lo=true∧rt hi=true∧key lo=min (key a) (key b)∧key hi=max (key a) (key b):=by
 unfold Q38.f
 rw [Qcb hb ha]
 by_cases h:key b<key a
 ·exact ⟨b,a,by simp [h],hb,ha,by omega,by omega⟩
 ·exact ⟨a,b,by simp [h],ha,hb,by omega,by omega⟩
def both (x a b c d:Pt):Bool:=onB x a b&&onB x c d
def crs (a b c d:Pt):Prop:=side a b c*side a b d<0∧side c d a*side c d b<0
def one_ (a b c d:Pt):Prop:=∃ x,x∈[a,b,c,d]∧both x a b c d=true
def two_ (a b c d:Pt):Prop:=∃ x y,x∈[a,b,c,d]∧y∈[a,b,c,d]∧both x a b c d=true∧both y a b c d=true∧x≠y
open Classical in
noncomputable def crsV (a b c d:Pt):Int:=if crs a b c d then 2 else 0
open Classical in
noncomputable def meetM (a b c d:Pt):Int:=if two_ a b c d then 3 else if one_ a b c d then 1 else crsV a b c d
open Classical in
noncomputable def meetV (a b c d:Pt):Int:=if (rt a&&(rt b&&(rt c&&rt d)))=true then meetM a b c d else 0
theorem Q6v {a b c d a' b' c' d':Pt} (h2:two_ a b c d↔two_ a' b' c' d') (h1:one_ a b c d↔one_ a' b' c' d') (h0:crs a b c d↔crs a' b' c' d'):meetM a b c d=meetM a' b' c' d':=by
 unfold meetM crsV
 rw [propext h2,propext h1,propext h0]
theorem Q8u (a b c:Pt):side b a c = -side a b c:=by
 unfold side;rw [Q4y];unfold cmp3;split<;>split<;>first|rfl|omega|(split<;>first|rfl|omega|(split<;>first|rfl|omega))
theorem Q8p {a b c d a' b' c' d':Pt} (hb:∀ x,both x a b c d=both x a' b' c' d') (hm:∀ x,x∈[a,b,c,d]↔x∈[a',b',c',d']):(two_ a b c d↔two_ a' b' c' d')∧(one_ a b c d↔one_ a' b' c' d'):=by
 constructor
 ·constructor
  ·rintro ⟨x,y,h1,h2,h3,h4,h5⟩;exact ⟨x,y,(hm x).1 h1,(hm y).1 h2,(hb x).symm.trans h3,(hb y).symm.trans h4,h5⟩
  ·rintro ⟨x,y,h1,h2,h3,h4,h5⟩;exact ⟨x,y,(hm x).2 h1,(hm y).2 h2,(hb x).trans h3,(hb y).trans h4,h5⟩
 ·constructor
  ·rintro ⟨x,h1,h2⟩;exact ⟨x,(hm x).1 h1,(hb x).symm.trans h2⟩
  ·rintro ⟨x,h1,h2⟩;exact ⟨x,(hm x).2 h1,(hb x).trans h2⟩
theorem Q7o (a b c d:Pt):meetM c d a b=meetM a b c d:=by
 obtain ⟨h2,h1⟩:=Q8p (a:=c) (b:=d) (c:=a) (d:=b) (a':=a) (b':=b) (c':=c) (d':=d) (fun x=>by unfold both;rw [Bool.and_comm]) (fun x=>by simp only [List.mem_cons,List.not_mem_nil,or_false];constructor<;>(rintro (h|h|h|h)<;>simp [h]))
 exact Q6v h2 h1 (by unfold crs;exact ⟨fun h=>⟨h.2,h.1⟩,fun h=>⟨h.2,h.1⟩⟩)
theorem Qd7 (a b c d:Pt):meetM b a c d=meetM a b c d:=by
 obtain ⟨h2,h1⟩:=Q8p (a:=b) (b:=a) (c:=c) (d:=d) (a':=a) (b':=b) (c':=c) (d':=d) (fun x=>by unfold both;rw [Q6g x b a]) (fun x=>by simp only [List.mem_cons,List.not_mem_nil,or_false];constructor<;>(rintro (h|h|h|h)<;>simp [h]))
 refine Q6v h2 h1 ?_
 unfold crs
 rw [Q8u a b c,Q8u a b d,Int.neg_mul_neg,Int.mul_comm (side c d b)]
theorem Qh6 (a b c d:Pt):meetM a b d c=meetM a b c d:=by
 rw [← Q7o a b d c,Qd7,Q7o]
theorem Qeh {x y:Pt}:(!(x.f0==y.f0) || (!(x.f1==y.f1) || (!(x.f2==y.f2))))=true↔x≠y:=by
 rcases x with ⟨x0,x1,x2⟩
 rcases y with ⟨y0,y1,y2⟩
 simp only [ne_eq,S27.mk.injEq,Bool.or_eq_true,Bool.not_eq_true',beq_eq_false_iff_ne]
 constructor
 ·rintro (h|h|h)<;>(rintro ⟨a,b,c⟩;contradiction)
 ·intro h
  by_cases h1:x0=y0
  ·by_cases h2:x1=y1
   ·exact .inr (.inr fun h3=>h ⟨h1,h2,h3⟩)
   ·exact .inr (.inl h2)
  ·exact .inl h1
theorem Q7a (a b c:Pt) : -1≤side a b c∧side a b c≤1:=by unfold side cmp3;split<;>(try split)<;>omega
theorem Q6h (a b c a' b' c':Pt):wrap64 (side a b c*side a' b' c')=side a b c*side a' b' c':=by
 have h:=Q7a a b c
 have h':=Q7a a' b' c'
 have e:side a b c = -1∨side a b c=0∨side a b c=1:=by omega
 rcases e with e|e|e<;>rw [e]<;>exact Q2u (by omega) (by omega)

theorem Q4m {p a b:Pt}:onB p a b=true↔rt p=true∧rt a=true∧rt b=true∧cross a b p=0∧(min a.f0 b.f0≤p.f0∧p.f0≤max a.f0 b.f0)∧(min a.f1 b.f1≤p.f1∧p.f1≤max a.f1 b.f1):=by
 unfold onB;simp only [Bool.and_eq_true,decide_eq_true_eq]
theorem Q5m (a b:Pt):cross a b a=0:=by unfold cross;grind
theorem Q5n (a b:Pt):cross a b b=0:=by unfold cross;grind
theorem Q98 {a b:Pt} (ha:rt a=true) (hb:rt b=true):onB a a b=true:=Q4m.2 ⟨ha,ha,hb,Q5m a b,by omega,by omega⟩
theorem Q8o {a b:Pt} (ha:rt a=true) (hb:rt b=true):onB b a b=true:=Q4m.2 ⟨hb,ha,hb,Q5n a b,by omega,by omega⟩
theorem between {D e f g:Int} (hD:0<D) (h0:0≤e) (h1:e≤D) (h:D*f=g*e):(0≤g→0≤f∧f≤g)∧(g≤0→g≤f∧f≤0):=by
 constructor
 ·intro hg
  have a1:=Int.mul_nonneg hg h0
  have a2:=Int.mul_le_mul_of_nonneg_left h1 hg
  rw [← h] at a1 a2
  rw [Int.mul_comm g D] at a2
  exact ⟨by have:=Int.le_of_mul_le_mul_left (a:=D) (b:=0) (c:=f) (by rw [Int.mul_zero];exact a1) hD;exact this,Int.le_of_mul_le_mul_left a2 hD⟩
 ·intro hg
  have a1:=Int.mul_nonneg (show 0 ≤ -g by omega) h0
  have a2:=Int.mul_le_mul_of_nonneg_left h1 (show 0 ≤ -g by omega)
  rw [Int.neg_mul,← h] at a1
  rw [Int.neg_mul,Int.neg_mul,← h,Int.mul_comm g D] at a2
  exact ⟨Int.le_of_mul_le_mul_left (a:=D) (by omega) hD,by have:=Int.le_of_mul_le_mul_left (a:=D) (b:=f) (c:=0) (by rw [Int.mul_zero];omega) hD;exact this⟩
theorem Qes {x a b:Pt} (hx:rt x=true) (ha:rt a=true) (hb:rt b=true) (hc:cross a b x=0) (hab:key a≤key b) :
  ((min a.f0 b.f0≤x.f0∧x.f0≤max a.f0 b.f0)∧(min a.f1 b.f1≤x.f1∧x.f1≤max a.f1 b.f1))↔(key a≤key x∧key x≤key b):=by
 obtain ⟨_,a1,a2,a3,a4⟩:=Q3e.1 ha
 obtain ⟨_,b1,b2,b3,b4⟩:=Q3e.1 hb
 obtain ⟨_,x1,x2,x3,x4⟩:=Q3e.1 hx
 have h:(b.f0 - a.f0)*(x.f1 - a.f1)=(b.f1 - a.f1)*(x.f0 - a.f0):=by unfold cross at hc;omega
 unfold key at *
 by_cases hD:0<b.f0 - a.f0
 ·constructor
  ·rintro ⟨⟨c1,c2⟩,c3,c4⟩
   constructor
   ·by_cases e:x.f0=a.f0
    ·rw [e,Int.sub_self,Int.mul_zero] at h
     have:=(Int.mul_eq_zero.1 h).resolve_left (by omega)
     omega
    ·omega
   ·by_cases e:x.f0=b.f0
    ·rw [e,Int.mul_comm] at h
     have:=Int.eq_of_mul_eq_mul_right (by omega) h
     omega
    ·omega
  ·rintro ⟨c1,c2⟩
   have h0:0≤x.f0 - a.f0:=by omega
   have h1:x.f0 - a.f0≤b.f0 - a.f0:=by omega
   obtain ⟨k1,k2⟩:=between hD h0 h1 h
   by_cases hg:0≤b.f1 - a.f1
   ·have:=k1 hg;omega
   ·have:=k2 (by omega);omega
 ·have e:b.f0=a.f0:=by omega
  omega
theorem Qeo {x a b:Pt} (hx:rt x=true) (ha:rt a=true) (hb:rt b=true) (hc:cross a b x=0):onB x a b=true↔(min (key a) (key b)≤key x∧key x≤max (key a) (key b)):=by
 have base:∀ {a b:Pt},rt a=true→rt b=true→cross a b x=0→key a≤key b→(onB x a b=true↔(min (key a) (key b)≤key x∧key x≤max (key a) (key b))):=by
  intro a b ha hb hc h
  rw [Q4m]
  have:=Qes hx ha hb hc h
  constructor
  ·rintro ⟨_,_,_,_,c⟩;have:=this.1 c;omega
  ·intro c;exact ⟨hx,ha,hb,hc,this.2 (by omega)⟩
 by_cases h:key a≤key b
 ·exact base ha hb hc h
 ·rw [Q6g,base hb ha (by rw [Q4y,hc];rfl) (by omega)];omega
theorem Q6d {x y a b c d:Pt} (h1:onB x a b=true) (h2:onB y a b=true) (h3:onB x c d=true) (h4:onB y c d=true) (hne:x≠y):cross a b c=0:=by
 obtain ⟨rx,_,_,p1,p2⟩:=Q4m.1 h1
 obtain ⟨ry,_,_,q1,q2⟩:=Q4m.1 h2
 obtain ⟨_,_,_,r1,r2⟩:=Q4m.1 h3
 obtain ⟨_,_,_,s1,s2⟩:=Q4m.1 h4
 obtain ⟨x2,_,_,_,_⟩:=Q3e.1 rx
 obtain ⟨y2,_,_,_,_⟩:=Q3e.1 ry
 have hv:x.f0≠y.f0∨x.f1≠y.f1:=by
  refine Classical.byContradiction fun hn=>hne ?_
  cases x;cases y
  simp only at *
  congr 1<;>omega
 have hw:c.f0≠d.f0∨c.f1≠d.f1:=by omega
 clear p2 q2 r2 s2 h1 h2 h3 h4 hne rx ry x2 y2
 unfold cross at *
 generalize hu0:b.f0 - a.f0=u0 at *
 generalize hu1:b.f1 - a.f1=u1 at *
 generalize hw0:d.f0 - c.f0=w0 at *
 generalize hw1:d.f1 - c.f1=w1 at *
 -- u × v = 0, w × v = 0, w × e = 0
 have uv:u0*(y.f1 - x.f1)=u1*(y.f0 - x.f0):=by
  have e1:u0*(y.f1 - x.f1)=u0*(y.f1 - a.f1) - u0*(x.f1 - a.f1):=by rw [← Int.mul_sub];congr 1;omega
  have e2:u1*(y.f0 - x.f0)=u1*(y.f0 - a.f0) - u1*(x.f0 - a.f0):=by rw [← Int.mul_sub];congr 1;omega
  omega
 have wv:w0*(y.f1 - x.f1)=w1*(y.f0 - x.f0):=by
  have e1:w0*(y.f1 - x.f1)=w0*(y.f1 - c.f1) - w0*(x.f1 - c.f1):=by rw [← Int.mul_sub];congr 1;omega
  have e2:w1*(y.f0 - x.f0)=w1*(y.f0 - c.f0) - w1*(x.f0 - c.f0):=by rw [← Int.mul_sub];congr 1;omega
  omega
 have we:w0*(x.f1 - c.f1)=w1*(x.f0 - c.f0):=by omega
 have ux:u0*(x.f1 - a.f1)=u1*(x.f0 - a.f0):=by omega
 have hv':y.f0 - x.f0≠0∨y.f1 - x.f1≠0:=by omega
 have hw':w0≠0∨w1≠0:=by omega
 have ue:u0*(x.f1 - c.f1)=u1*(x.f0 - c.f0)→u0*(c.f1 - a.f1) - u1*(c.f0 - a.f0)=0:=by
  intro h
  have e1:u0*(c.f1 - a.f1)=u0*(x.f1 - a.f1) - u0*(x.f1 - c.f1):=by rw [← Int.mul_sub];congr 1;omega
  have e2:u1*(c.f0 - a.f0)=u1*(x.f0 - a.f0) - u1*(x.f0 - c.f0):=by rw [← Int.mul_sub];congr 1;omega
  omega
 apply ue
 clear ue ux p1 q1 r1 s1 hv hw hu0 hu1 hw0 hw1
 generalize y.f0 - x.f0=v0 at *
 generalize y.f1 - x.f1=v1 at *
 generalize x.f0 - c.f0=e0 at *
 generalize x.f1 - c.f1=e1 at *
 have uw:u0*w1 - u1*w0=0:=by
  rcases hv' with h|h
  ·have:v0*(u0*w1 - u1*w0)=0:=by
    have a1:v0*(u0*w1 - u1*w0)=u0*(w1*v0) - w0*(u1*v0):=by grind
    rw [a1,← wv,← uv];grind
   exact (Int.mul_eq_zero.1 this).resolve_left h
  ·have:v1*(u0*w1 - u1*w0)=0:=by
    have a1:v1*(u0*w1 - u1*w0)=w1*(u0*v1) - u1*(w0*v1):=by grind
    rw [a1,wv,uv];grind
   exact (Int.mul_eq_zero.1 this).resolve_left h
 have fin:u0*e1 - u1*e0=0:=by
  rcases hw' with h|h
  ·have:w0*(u0*e1 - u1*e0)=0:=by
    have a1:w0*(u0*e1 - u1*e0)=u0*(w0*e1) - u1*w0*e0:=by grind
    rw [a1,we]
    have a2:u0*(w1*e0) - u1*w0*e0=(u0*w1 - u1*w0)*e0:=by grind
    rw [a2,uw,Int.zero_mul]
   exact (Int.mul_eq_zero.1 this).resolve_left h
  ·have:w1*(u0*e1 - u1*e0)=0:=by
    have a1:w1*(u0*e1 - u1*e0)=u0*w1*e1 - u1*(w1*e0):=by grind
    rw [a1,← we]
    have a2:u0*w1*e1 - u1*(w0*e1)=(u0*w1 - u1*w0)*e1:=by grind
    rw [a2,uw,Int.zero_mul]
   exact (Int.mul_eq_zero.1 this).resolve_left h
 omega
theorem Q6j {a b c d:Pt} (h:two_ a b c d):cross a b c=0∧cross a b d=0∧cross c d a=0∧cross c d b=0:=by
 obtain ⟨x,y,_,_,hx,hy,hne⟩:=h
 unfold both at hx hy
 simp only [Bool.and_eq_true] at hx hy
 have sw:∀ {p u v:Pt},onB p u v=true→onB p v u=true:=fun h=>by rw [Q6g];exact h
 exact ⟨Q6d hx.1 hy.1 hx.2 hy.2 hne,Q6d hx.1 hy.1 (sw hx.2) (sw hy.2) hne,Q6d hx.2 hy.2 hx.1 hy.1 hne,Q6d hx.2 hy.2 (sw hx.1) (sw hy.1) hne⟩
theorem Qcq {a b c d:Pt} (ha:rt a=true) (hb:rt b=true) (hc:rt c=true) (hd:rt d=true) :
  one_ a b c d↔(onB a c d=true∨onB b c d=true∨onB c a b=true∨onB d a b=true):=by
 unfold one_ both
 constructor
 ·rintro ⟨x,hx,h⟩
  simp only [Bool.and_eq_true] at h
  simp only [List.mem_cons,List.not_mem_nil,or_false] at hx
  rcases hx with rfl|rfl|rfl|rfl
  ·exact .inl h.2
  ·exact .inr (.inl h.2)
  ·exact .inr (.inr (.inl h.1))
  ·exact .inr (.inr (.inr h.1))
 ·rintro (h|h|h|h)
  ·exact ⟨a,by simp,by rw [Q98 ha hb,h];rfl⟩
  ·exact ⟨b,by simp,by rw [Q8o ha hb,h];rfl⟩
  ·exact ⟨c,by simp,by rw [Q98 hc hd,h];rfl⟩
  ·exact ⟨d,by simp,by rw [Q8o hc hd,h];rfl⟩
theorem Qcc {a b c d:Pt} (ha:rt a=true) (hb:rt b=true) (hc:rt c=true) (hd:rt d=true) (h1:cross a b c=0) (h2:cross a b d=0) (h3:cross c d a=0) (h4:cross c d b=0) :
  touch (max (min (key a) (key b)) (min (key c) (key d))) (min (max (key a) (key b)) (max (key c) (key d)))=meetM a b c d:=by
 have R:∀ x,x∈[a,b,c,d]→rt x=true:=fun x hx=>by
  simp only [List.mem_cons,List.not_mem_nil,or_false] at hx;rcases hx with rfl|rfl|rfl|rfl<;>assumption
 have B:∀ x,x∈[a,b,c,d]→(both x a b c d=true↔(max (min (key a) (key b)) (min (key c) (key d))≤key x∧key x≤min (max (key a) (key b)) (max (key c) (key d)))):=fun x hx=>by
  have rx:=R x hx
  have c1:cross a b x=0:=by
   simp only [List.mem_cons,List.not_mem_nil,or_false] at hx;rcases hx with rfl|rfl|rfl|rfl
   ·exact Q5m _ _
   ·exact Q5n _ _
   ·exact h1
   ·exact h2
  have c2:cross c d x=0:=by
   simp only [List.mem_cons,List.not_mem_nil,or_false] at hx;rcases hx with rfl|rfl|rfl|rfl
   ·exact h3
   ·exact h4
   ·exact Q5m _ _
   ·exact Q5n _ _
  unfold both
  rw [Bool.and_eq_true,Qeo rx ha hb c1,Qeo rx hc hd c2];omega
 have hcrs:¬ crs a b c d:=fun h=>by
  have:side a b c=0:=side0.2 h1
  rw [crs,this,Int.zero_mul] at h;exact absurd h.1 (by omega)
 have W:∀ v:Int,v=key a∨v=key b∨v=key c∨v=key d→∃ x,x∈[a,b,c,d]∧key x=v:=fun v h=>by
  rcases h with h|h|h|h
  ·exact ⟨a,by simp,h.symm⟩
  ·exact ⟨b,by simp,h.symm⟩
  ·exact ⟨c,by simp,h.symm⟩
  ·exact ⟨d,by simp,h.symm⟩
 obtain ⟨xl,ml,kl⟩:=W (max (min (key a) (key b)) (min (key c) (key d))) (by omega)
 obtain ⟨xh,mh,kh⟩:=W (min (max (key a) (key b)) (max (key c) (key d))) (by omega)
 have hO:one_ a b c d↔max (min (key a) (key b)) (min (key c) (key d))≤min (max (key a) (key b)) (max (key c) (key d)):=by
  constructor
  ·rintro ⟨x,hx,h⟩;have:=(B x hx).1 h;omega
  ·intro h;exact ⟨xl,ml,(B xl ml).2 (by omega)⟩
 have hT:two_ a b c d↔max (min (key a) (key b)) (min (key c) (key d))<min (max (key a) (key b)) (max (key c) (key d)):=by
  constructor
  ·rintro ⟨x,y,hx,hy,bx,by_,hne⟩
   have i1:=(B x hx).1 bx
   have i2:=(B y hy).1 by_
   have:key x≠key y:=fun e=>hne (key_inj (R x hx) (R y hy) e)
   omega
  ·intro h
   refine ⟨xl,xh,ml,mh,(B xl ml).2 (by omega),(B xh mh).2 (by omega),fun e => ?_⟩
   rw [e] at kl;omega
 unfold meetM crsV touch
 generalize max (min (key a) (key b)) (min (key c) (key d))=lo at *
 generalize min (max (key a) (key b)) (max (key c) (key d))=hi at *
 by_cases e1:lo<hi
 ·rw [if_neg (by omega),if_pos e1,if_pos (hT.2 e1)]
 ·rw [if_neg (fun h=>e1 (hT.1 h))]
  by_cases e2:lo=hi
  ·rw [if_pos e2,if_pos (hO.2 (by omega))]
  ·rw [if_neg e2,if_neg e1,if_neg (fun h=>e2 (by have:=hO.1 h;omega)),if_neg hcrs]
end Go.Proofs.Ytbonkedecfjmdaa.G

namespace Go.Proofs.Ytbonkedecfjmdaa.Pl
set_option linter.unusedVariables false
set_option linter.unusedSimpArgs false
open Go Go.RowKit Go.Proofs.Ytbonkedecfjmdaa.P Go.Proofs.Ytbonkedecfjmdaa.G Go.Proofs.Ytbonkedecfjmdaa.WL Go.Proofs.YtbonkedecfjmdaaW.PrintWords Go.Proofs.YtbonkedecfjmdaaW.PrintLast Go.Proofs.YtbonkedecfjmdaaW.PrintMore
abbrev ptO (a:Pt):Obj:=.cells #[.int .i64 a.f0,.int .i64 a.f1,.int .i64 a.f2] 27
abbrev ptA (a:Pt):Value:=.agg #[.int .i64 a.f0,.int .i64 a.f1,.int .i64 a.f2]
def At (w:World) (g:Nat) (a:Pt):Prop:=w.heap[g]? = some (.cells #[.int .i64 a.f0,.int .i64 a.f1,.int .i64 a.f2] 27 (0,0))
theorem At.c0 {w g a} (h:At w g a):w.cell? ⟨g,0,none⟩=some (.int .i64 a.f0):=(Q0v h 0).trans rfl
theorem At.c1 {w g a} (h:At w g a):w.cell? ⟨g,1,none⟩=some (.int .i64 a.f1):=(Q0v h 1).trans rfl
theorem At.c2 {w g a} (h:At w g a):w.cell? ⟨g,2,none⟩=some (.int .i64 a.f2):=(Q0v h 2).trans rfl
theorem At.below {w w':World} {g:Nat} {a:Pt} (h:At w g a) (hb:Below w.heap.size w w'):At w' g a:=Q1p h hb
theorem At.old {w:World} {g a} (h:At w g a) (x:Obj):At (w.alloc x) g a:=(heap_alloc_old _ _ (Q25 h)).trans h
theorem At.new (w:World) (a:Pt):At (w.alloc (ptO a)) w.heap.size a:=heap_alloc_new _ _
theorem box3 (w:World) (a b c:Pt):∃ W,W=((w.alloc (ptO a)).alloc (ptO b)).alloc (ptO c)∧W.heap.size=w.heap.size+3∧At W w.heap.size a∧At W (w.heap.size+1) b∧At W (w.heap.size+1+1) c∧Below w.heap.size w W:=by
 have s1:(w.alloc (ptO a)).heap.size=w.heap.size+1:=by simp
 have s2:((w.alloc (ptO a)).alloc (ptO b)).heap.size=w.heap.size+1+1:=by simp
 have h2:=At.new (w.alloc (ptO a)) b
 have h3:=At.new ((w.alloc (ptO a)).alloc (ptO b)) c
 rw [s1] at h2
 rw [s2] at h3
 exact ⟨_,rfl,by simp,((At.new w a).old _).old _,h2.old _,h3,(((Below.refl _ w).alloc (Nat.le_refl _) _).alloc (by rw [s1];omega) _).alloc (by rw [s2];omega) _⟩
def Li (w:World) (g:Nat) (p q r:Pt):Prop:=w.heap[g]? = some (.cells #[.int .i64 p.f0,.int .i64 p.f1,.int .i64 p.f2,.int .i64 q.f0,.int .i64 q.f1,.int .i64 q.f2,.int .i64 r.f0,.int .i64 r.f1,.int .i64 r.f2] 27 (0,0))
theorem Li.C {w:World} {g:Nat} {p q r:Pt} (hg:Li w g p q r):Kd.C k27 w (some ⟨g,0,none⟩) 3 [p,q,r]:=by
 refine ⟨rfl,by simp,fun _=>⟨⟨g,0,none⟩,rfl,fun j x hx => ?_⟩⟩
 have c:=fun i=>cell_of_row w g i _ _ _ hg
 have ad:∀ i:Nat,(Addr.add ⟨g,0,none⟩ i)=⟨g,i,none⟩:=fun i=>by rw [Addr.add_mid];simp
 have hk:∀ x:Pt,k27.K w x [.int .i64 x.f0,.int .i64 x.f1,.int .i64 x.f2]:=fun x=>⟨_,_,rfl,rfl,⟨_,_,rfl,rfl,rfl⟩⟩
 have hj:j<3:=by
  rcases Nat.lt_or_ge j 3 with h|h
  ·exact h
  ·rw [List.getElem?_eq_none (by simpa using h)] at hx;cases hx
 refine ⟨_,rfl,hk x,fun i u hu => ?_⟩
 have hi:i<3:=by
  rcases Nat.lt_or_ge i 3 with h|h
  ·exact h
  ·rw [List.getElem?_eq_none (by simpa using h)] at hu;cases hu
 rw [show j*k27.sz+i=j*3+i from rfl,ad,c]
 rcases j with _|_|_|j<;>rcases i with _|_|_|i<;>first|omega|(simp at hx hu;subst hx;subst hu;rfl)
theorem lit3b {ops:Array Oper} {rest:List Oper} {o:Oper} {a:Act} {Q:Exit→Act→World→Prop} {W:World} (hgd:o.guard=none) {N:Tmp} (hd:o.dst=some N) (p q r:Pt)
  (hrun:(execOp a.eval o).run Try.prog W=.ok (.value (.slice (some ⟨W.heap.size,0,none⟩) 3 3)) (W.alloc (.cells #[.int .i64 p.f0,.int .i64 p.f1,.int .i64 p.f2,.int .i64 q.f0,.int .i64 q.f1,.int .i64 q.f2,.int .i64 r.f0,.int .i64 r.f1,.int .i64 r.f2] 27)))
  (h:∀ w1,Li w1 W.heap.size p q r→Below W.heap.size W w1→wpList Try.prog ops Q rest (a.put o.dst (.slice (some ⟨W.heap.size,0,none⟩) 3 3)) w1):wpList Try.prog ops Q (o :: rest) a W :=
 Kd.Q4t hgd hrun (h _ (heap_alloc_new W _) ((Below.refl _ W).alloc (Nat.le_refl _) _))
theorem lit3 {ops:Array Oper} {rest:List Oper} {o:Oper} {a:Act} {Q:Exit→Act→World→Prop} {W:World} (hgd:o.guard=none) {N:Tmp} (hd:o.dst=some N) (p q r:Pt)
  (hrun:(execOp a.eval o).run Try.prog W=.ok (.value (.slice (some ⟨W.heap.size,0,none⟩) 3 3)) (W.alloc (.cells #[.int .i64 p.f0,.int .i64 p.f1,.int .i64 p.f2,.int .i64 q.f0,.int .i64 q.f1,.int .i64 q.f2,.int .i64 r.f0,.int .i64 r.f1,.int .i64 r.f2] 27)))
  (h:∀ w1,Kd.C k27 w1 (some ⟨W.heap.size,0,none⟩) 3 [p,q,r]→Below W.heap.size W w1→wpList Try.prog ops Q rest (a.put o.dst (.slice (some ⟨W.heap.size,0,none⟩) 3 3)) w1):wpList Try.prog ops Q (o :: rest) a W :=
 lit3b hgd hd p q r hrun fun w1 hl hb=>h w1 hl.C hb
theorem Qfm (p a b:Pt):[p,a,b].all rt=(rt p&&(rt a&&rt b)):=by simp
set_option maxHeartbeats 8000000 in
set_option maxRecDepth 100000 in
theorem Q41 (p a b:Pt) (w:World):Calls Try.prog 59 #[ptA p,ptA a,ptA b] w fun e w'=>e=.returned (.bool (onB p a b))∧Below w.heap.size w w':=by
 have hu27:=Try.underlying27
 obtain ⟨K,hK⟩:=Q4w [p,a,b] (by simp)
 have hright:∀ W A,Kd.C k27 W A 3 [p,a,b]→Calls Try.prog 32 #[.slice A 3 3] W fun e w'=>e=.returned (.bool (rt p&&(rt a&&rt b)))∧Below W.heap.size W w':=fun W A hC=>by
  have:=Q04.calls K A 3 [p,a,b] _ W hC (Nat.le_refl _) (hK K (Nat.le_refl _))
  rw [Qfm] at this
  exact this
 have hon:onB p a b=(rt p&&(rt a&&(rt b&&decide (cross a b p=0∧(min a.f0 b.f0≤p.f0∧p.f0≤max a.f0 b.f0)∧(min a.f1 b.f1≤p.f1∧p.f1≤max a.f1 b.f1))))):=rfl
 have hturn:(rt p&&(rt a&&rt b))=true→∀ W,Calls Try.prog 60 #[ptA a,ptA b,ptA p] W fun e w'=>e=.returned (.int .i64 (side a b p))∧Below W.heap.size W w':=fun h W=>by
  simp only [Bool.and_eq_true] at h
  obtain ⟨K2,hK2⟩:=Q6l h.2.1 h.2.2 h.1
  exact Q2w.calls K2 _ _ _ _ _ _ _ _ _ _ W (hK2 K2 (Nat.le_refl _))
 obtain ⟨W,hW,hsz,gp,ga,gb,hB⟩:=box3 w p a b
 have HT:=Aside0.mk hturn
 have HON:=Aside0.mk hon
 clear hK hturn hon
 generalize onB p a b=R at *
 go_enter Try.func59,Try.ntmps59
 go_upto_region 1 with (go_step3)
 rw [← hW]
 clear hW hsz
 have x0:=gp.c0
 have x1:=gp.c1
 have x2:=gp.c2
 have y0:=ga.c0
 have y1:=ga.c1
 have y2:=ga.c2
 have z0:=gb.c0
 have z1:=gb.c1
 have z2:=gb.c2
 by_cases h:(rt p&&(rt a&&rt b))=true
 ·have hr:=hright
  rw [h] at hr
  have ht:=HT.out h
  simp only [Bool.and_eq_true] at h
  have HON2:=Aside0.mk (show R=decide (cross a b p=0∧(min a.f0 b.f0≤p.f0∧p.f0≤max a.f0 b.f0)∧(min a.f1 b.f1≤p.f1∧p.f1≤max a.f1 b.f1)) by rw [HON.out,h.1,h.2.1,h.2.2];rfl)
  have hs0:side a b p=0↔cross a b p=0:=side0
  clear hright HON HT h
  generalize side a b p=s at *
  generalize cross a b p=c at *
  obtain ⟨a0,a1,a2⟩:=a
  obtain ⟨b0,b1,b2⟩:=b
  obtain ⟨p0,p1,p2⟩:=p
  simp only at *
  have hmin:∀ u v:Int,(if v<u then v else u)=min u v:=fun u v=>by omega
  have hmax:∀ u v:Int,(if u<v then v else u)=max u v:=fun u v=>by omega
  by_cases hs:s=0
  ·have hc:=hs0.1 hs
   subst hs
   generalize hm1:min a0 b0=m1 at *
   generalize hm2:max a0 b0=m2 at *
   generalize hm3:min a1 b1=m3 at *
   generalize hm4:max a1 b1=m4 at *
   have e1:(if b0<a0 then b0 else a0)=m1:=(hmin _ _).trans hm1
   have e2:(if a0<b0 then b0 else a0)=m2:=(hmax _ _).trans hm2
   have e3:(if b1<a1 then b1 else a1)=m3:=(hmin _ _).trans hm3
   have e4:(if a1<b1 then b1 else a1)=m4:=(hmax _ _).trans hm4
   clear hm1 hm2 hm3 hm4 hmin hmax hs0
   have HC:=Aside0.mk hc
   clear hc
   by_cases g1:m1≤p0
   rotate_left
   ·have HRF:=Aside0.mk (show R=false by rw [HON2.out];exact decide_eq_false (fun h=>g1 h.2.1.1))
    have gb_:decide (m1≤p0)=false:=decide_eq_false g1
    clear HON2 HC
    go_wp2_with (first|((with_reducible refine Q0i (N:=10) rfl ?_);refine lit3 ?hg (N:=10) ?hd ⟨p0,p1,p2⟩ ⟨a0,a1,a2⟩ ⟨b0,b1,b2⟩ ?hr ?_;(case hd=>rfl);(case hg=>rfl);(case hr=>first|(go_simp;done)|(go_simp;rfl));intro w3 hC hb3;have hrr:=hr _ _ hC;have gp:=gp.below hb3;have ga:=ga.below hb3;have gb:=gb.below hb3)|(go_at_call 32;refine hrr.mono ?_;rintro e w4 ⟨rfl,hb4⟩;have gp:=gp.below hb4;have ga:=ga.below hb4;have gb:=gb.below hb4;have x0:=gp.c0;have x1:=gp.c1;have x2:=gp.c2;have y0:=ga.c0;have y1:=ga.c1;have y2:=ga.c2;have z0:=gb.c0;have z1:=gb.c1;have z2:=gb.c2)|(go_at_call 60;refine (ht _).mono ?_;rintro e w5 ⟨rfl,hb5⟩;have gp:=gp.below hb5;have ga:=ga.below hb5;have gb:=gb.below hb5;have x0:=gp.c0;have x1:=gp.c1;have x2:=gp.c2;have y0:=ga.c0;have y1:=ga.c1;have y2:=ga.c2;have z0:=gb.c0;have z1:=gb.c1;have z2:=gb.c2)|go_step3)
    go_ret
    exact ⟨by rw [HRF.out];first|rfl|simp,Q0j (Q0j (Q0j hB hb3) hb4) hb5⟩
   have gt1:decide (m1≤p0)=true:=decide_eq_true g1
   by_cases g2:p0≤m2
   rotate_left
   ·have HRF:=Aside0.mk (show R=false by rw [HON2.out];exact decide_eq_false (fun h=>g2 h.2.1.2))
    have gb_:decide (p0≤m2)=false:=decide_eq_false g2
    clear HON2 HC
    go_wp2_with (first|((with_reducible refine Q0i (N:=10) rfl ?_);refine lit3 ?hg (N:=10) ?hd ⟨p0,p1,p2⟩ ⟨a0,a1,a2⟩ ⟨b0,b1,b2⟩ ?hr ?_;(case hd=>rfl);(case hg=>rfl);(case hr=>first|(go_simp;done)|(go_simp;rfl));intro w3 hC hb3;have hrr:=hr _ _ hC;have gp:=gp.below hb3;have ga:=ga.below hb3;have gb:=gb.below hb3)|(go_at_call 32;refine hrr.mono ?_;rintro e w4 ⟨rfl,hb4⟩;have gp:=gp.below hb4;have ga:=ga.below hb4;have gb:=gb.below hb4;have x0:=gp.c0;have x1:=gp.c1;have x2:=gp.c2;have y0:=ga.c0;have y1:=ga.c1;have y2:=ga.c2;have z0:=gb.c0;have z1:=gb.c1;have z2:=gb.c2)|(go_at_call 60;refine (ht _).mono ?_;rintro e w5 ⟨rfl,hb5⟩;have gp:=gp.below hb5;have ga:=ga.below hb5;have gb:=gb.below hb5;have x0:=gp.c0;have x1:=gp.c1;have x2:=gp.c2;have y0:=ga.c0;have y1:=ga.c1;have y2:=ga.c2;have z0:=gb.c0;have z1:=gb.c1;have z2:=gb.c2)|go_step3)
    go_ret
    exact ⟨by rw [HRF.out];first|rfl|simp,Q0j (Q0j (Q0j hB hb3) hb4) hb5⟩
   have gt2:decide (p0≤m2)=true:=decide_eq_true g2
   by_cases g3:m3≤p1
   rotate_left
   ·have HRF:=Aside0.mk (show R=false by rw [HON2.out];exact decide_eq_false (fun h=>g3 h.2.2.1))
    have gb_:decide (m3≤p1)=false:=decide_eq_false g3
    clear HON2 HC
    go_wp2_with (first|((with_reducible refine Q0i (N:=10) rfl ?_);refine lit3 ?hg (N:=10) ?hd ⟨p0,p1,p2⟩ ⟨a0,a1,a2⟩ ⟨b0,b1,b2⟩ ?hr ?_;(case hd=>rfl);(case hg=>rfl);(case hr=>first|(go_simp;done)|(go_simp;rfl));intro w3 hC hb3;have hrr:=hr _ _ hC;have gp:=gp.below hb3;have ga:=ga.below hb3;have gb:=gb.below hb3)|(go_at_call 32;refine hrr.mono ?_;rintro e w4 ⟨rfl,hb4⟩;have gp:=gp.below hb4;have ga:=ga.below hb4;have gb:=gb.below hb4;have x0:=gp.c0;have x1:=gp.c1;have x2:=gp.c2;have y0:=ga.c0;have y1:=ga.c1;have y2:=ga.c2;have z0:=gb.c0;have z1:=gb.c1;have z2:=gb.c2)|(go_at_call 60;refine (ht _).mono ?_;rintro e w5 ⟨rfl,hb5⟩;have gp:=gp.below hb5;have ga:=ga.below hb5;have gb:=gb.below hb5;have x0:=gp.c0;have x1:=gp.c1;have x2:=gp.c2;have y0:=ga.c0;have y1:=ga.c1;have y2:=ga.c2;have z0:=gb.c0;have z1:=gb.c1;have z2:=gb.c2)|go_step3)
    go_ret
    exact ⟨by rw [HRF.out];first|rfl|simp,Q0j (Q0j (Q0j hB hb3) hb4) hb5⟩
   have gt3:decide (m3≤p1)=true:=decide_eq_true g3
   have HRF:=Aside0.mk (show R=decide (p1≤m4) by rw [HON2.out];simp [HC.out,g1,g2,g3])
   clear HON2 HC
   go_wp2_with (first|((with_reducible refine Q0i (N:=10) rfl ?_);refine lit3 ?hg (N:=10) ?hd ⟨p0,p1,p2⟩ ⟨a0,a1,a2⟩ ⟨b0,b1,b2⟩ ?hr ?_;(case hd=>rfl);(case hg=>rfl);(case hr=>first|(go_simp;done)|(go_simp;rfl));intro w3 hC hb3;have hrr:=hr _ _ hC;have gp:=gp.below hb3;have ga:=ga.below hb3;have gb:=gb.below hb3)|(go_at_call 32;refine hrr.mono ?_;rintro e w4 ⟨rfl,hb4⟩;have gp:=gp.below hb4;have ga:=ga.below hb4;have gb:=gb.below hb4;have x0:=gp.c0;have x1:=gp.c1;have x2:=gp.c2;have y0:=ga.c0;have y1:=ga.c1;have y2:=ga.c2;have z0:=gb.c0;have z1:=gb.c1;have z2:=gb.c2)|(go_at_call 60;refine (ht _).mono ?_;rintro e w5 ⟨rfl,hb5⟩;have gp:=gp.below hb5;have ga:=ga.below hb5;have gb:=gb.below hb5;have x0:=gp.c0;have x1:=gp.c1;have x2:=gp.c2;have y0:=ga.c0;have y1:=ga.c1;have y2:=ga.c2;have z0:=gb.c0;have z1:=gb.c1;have z2:=gb.c2)|go_step3)
   go_ret
   exact ⟨by rw [HRF.out];first|rfl|simp,Q0j (Q0j (Q0j hB hb3) hb4) hb5⟩
  ·have HRF:=Aside0.mk (show R=false by rw [HON2.out];exact decide_eq_false (fun h=>hs (hs0.2 h.1)))
   have hsb:(s==0)=false:=by simpa using hs
   clear HON2 hs0 hmin hmax hs
   go_wp2_with (first|((with_reducible refine Q0i (N:=10) rfl ?_);refine lit3 ?hg (N:=10) ?hd ⟨p0,p1,p2⟩ ⟨a0,a1,a2⟩ ⟨b0,b1,b2⟩ ?hr ?_;(case hd=>rfl);(case hg=>rfl);(case hr=>first|(go_simp;done)|(go_simp;rfl));intro w3 hC hb3;have hrr:=hr _ _ hC;have gp:=gp.below hb3;have ga:=ga.below hb3;have gb:=gb.below hb3)|(go_at_call 32;refine hrr.mono ?_;rintro e w4 ⟨rfl,hb4⟩;have gp:=gp.below hb4;have ga:=ga.below hb4;have gb:=gb.below hb4;have x0:=gp.c0;have x1:=gp.c1;have x2:=gp.c2;have y0:=ga.c0;have y1:=ga.c1;have y2:=ga.c2;have z0:=gb.c0;have z1:=gb.c1;have z2:=gb.c2)|(go_at_call 60;refine (ht _).mono ?_;rintro e w5 ⟨rfl,hb5⟩;have gp:=gp.below hb5;have ga:=ga.below hb5;have gb:=gb.below hb5;have x0:=gp.c0;have x1:=gp.c1;have x2:=gp.c2;have y0:=ga.c0;have y1:=ga.c1;have y2:=ga.c2;have z0:=gb.c0;have z1:=gb.c1;have z2:=gb.c2)|go_step3)
   go_ret
   exact ⟨by rw [HRF.out];rfl,Q0j (Q0j (Q0j hB hb3) hb4) hb5⟩
 ·have HRF:=Aside0.mk (show R=false by rw [HON.out];cases hp:rt p<;>cases ha:rt a<;>cases hb:rt b<;>simp_all)
  rw [Bool.eq_false_iff.2 h] at hright
  clear HT HON h
  go_wp2_with (first|((with_reducible refine Q0i (N:=10) rfl ?_);refine lit3 ?hg (N:=10) ?hd p a b ?hr ?_;(case hd=>rfl);(case hg=>rfl);(case hr=>first|(go_simp;done)|(go_simp;rfl));intro w3 hC hb3;have hrr:=hright _ _ hC)|(go_at_call 32;refine hrr.mono ?_;rintro e w4 ⟨rfl,hb4⟩)|go_step3)
  go_ret
  exact ⟨by rw [HRF.out];rfl,Q0j (Q0j hB hb3) hb4⟩
end Go.Proofs.Ytbonkedecfjmdaa.Pl

namespace Go.Proofs.Ytbonkedecfjmdaa.P
open Go.RowKit Go.Proofs.YtbonkedecfjmdaaW.PrintWords Go.Proofs.YtbonkedecfjmdaaW.PrintLast Go.Proofs.YtbonkedecfjmdaaW.PrintMore Go.Proofs.Ytbonkedecfjmdaa.X
attribute [local go_sem] Q2a Q2b Q2s Q2q Q1z Q1y Q19 Q2c Q2r Q2p add64
set_option linter.unusedVariables false
set_option linter.unusedSimpArgs false
def Q5e.f (aA:Int) (bA:Int) (cA:Int) (dA:Int) (eA:Int) (fA:Int) (gA:Int) (hA:Int) (iA:Int):Option (Bool):=some (G.onB ⟨aA,bA,cA⟩ ⟨dA,eA,fA⟩ ⟨gA,hA,iA⟩)
set_option maxHeartbeats 8000000 in
set_option maxRecDepth 100000 in
theorem Q5e.calls (aA:Int) (bA:Int) (cA:Int) (dA:Int) (eA:Int) (fA:Int) (gA:Int) (hA:Int) (iA:Int) (r:Bool) (w:World) (h:Q5e.f aA bA cA dA eA fA gA hA iA=some r) :
  Calls Try.prog 59 #[.agg #[.int .i64 aA,.int .i64 bA,.int .i64 cA],.agg #[.int .i64 dA,.int .i64 eA,.int .i64 fA],.agg #[.int .i64 gA,.int .i64 hA,.int .i64 iA]] w fun e w'=>e=.returned (.bool r)∧Below w.heap.size w w':=by
 unfold Q5e.f at h
 obtain rfl:=Option.some.inj h
 exact Pl.Q41 ⟨aA,bA,cA⟩ ⟨dA,eA,fA⟩ ⟨gA,hA,iA⟩ w
end Go.Proofs.Ytbonkedecfjmdaa.P
