/- plan.may walked. No condition. plan.Meets: the walk. No condition. Whether arcs meet elsewhere than at their ends: the document's answer and the program's are one. No condition. -/
import Derived.Test.YtbonkedecfjmdaaZ19
import Derived.Test.YtbonkedecfjmdaaZ20
import Derived.WalkMore

namespace Go.Proofs.Ytbonkedecfjmdaa.Pl
set_option linter.unusedVariables false
set_option linter.unusedSimpArgs false
open Go Go.RowKit Go.Proofs.Ytbonkedecfjmdaa.P Go.Proofs.Ytbonkedecfjmdaa.G Go.Proofs.Ytbonkedecfjmdaa.WL Go.Proofs.YtbonkedecfjmdaaW.PrintWords Go.Proofs.YtbonkedecfjmdaaW.PrintLast Go.Proofs.YtbonkedecfjmdaaW.PrintMore
theorem Qax (n:Int) (h : -9223372036854775808≤n∧n≤9223372036854775807):wrap64 n=n:=by unfold wrap64;omega
abbrev sdC (s:Sd):Array Value:=#[.int .i64 s.f0.f0,.int .i64 s.f0.f1,.int .i64 s.f0.f2,.int .i64 s.f1.f0,.int .i64 s.f1.f1,.int .i64 s.f1.f2,.int .i64 s.f2,.int .i64 s.f3,.bool s.f4,.bool s.f5]
abbrev sdA (s:Sd):Value:=.agg (sdC s)
def AtS (w:World) (g:Nat) (s:Sd):Prop:=w.heap[g]? = some (.cells (sdC s) 109 (0,0))
theorem AtS.c {w g s} (h:AtS w g s):w.cell? ⟨g,0,none⟩=some (.int .i64 s.f0.f0)∧w.cell? ⟨g,1,none⟩=some (.int .i64 s.f0.f1)∧w.cell? ⟨g,2,none⟩=some (.int .i64 s.f0.f2)∧w.cell? ⟨g,3,none⟩=some (.int .i64 s.f1.f0)∧w.cell? ⟨g,4,none⟩=some (.int .i64 s.f1.f1)∧w.cell? ⟨g,5,none⟩=some (.int .i64 s.f1.f2)∧w.cell? ⟨g,6,none⟩=some (.int .i64 s.f2)∧w.cell? ⟨g,7,none⟩=some (.int .i64 s.f3)∧w.cell? ⟨g,8,none⟩=some (.bool s.f4)∧w.cell? ⟨g,9,none⟩=some (.bool s.f5) :=
 ⟨(Q0v h 0).trans rfl,(Q0v h 1).trans rfl,(Q0v h 2).trans rfl,(Q0v h 3).trans rfl,(Q0v h 4).trans rfl,(Q0v h 5).trans rfl,(Q0v h 6).trans rfl,(Q0v h 7).trans rfl,(Q0v h 8).trans rfl,(Q0v h 9).trans rfl⟩
theorem AtS.below {w w':World} {g:Nat} {s:Sd} (h:AtS w g s) (hb:Below w.heap.size w w'):AtS w' g s:=Q1p h hb
theorem AtS.old {w:World} {g:Nat} {s:Sd} (h:AtS w g s) (x:Obj):AtS (w.alloc x) g s:=(heap_alloc_old _ _ (Q25 h)).trans h
theorem Li.old {w:World} {g:Nat} {p q r:Pt} (h:Li w g p q r) (x:Obj):Li (w.alloc x) g p q r:=(heap_alloc_old _ _ (Q25 h)).trans h
theorem Li.below {w w':World} {g:Nat} {p q r:Pt} (h:Li w g p q r) (hb:Below w.heap.size w w'):Li w' g p q r:=Q1p h hb
theorem Qgd {w w':World} {a b:Nat} (_:Below a w w') (h:b<w'.heap.size) (h2:a<b):a<w'.heap.size:=by omega
theorem AtS.far {w:World} {g g6:Nat} {s:Sd} (h:AtS w g s) (hne:g≠g6) (x:Pt):AtS (put3 w g6 x) g s:=Q2f (Q2f (Q2f h hne _) hne _) hne _
theorem Li.far {w:World} {g g6:Nat} {p q r:Pt} (h:Li w g p q r) (hne:g≠g6) (x:Pt):Li (put3 w g6 x) g p q r:=Q2f (Q2f (Q2f h hne _) hne _) hne _
theorem boxS (w:World) (s t:Sd):∃ W,W=(w.alloc (.cells (sdC s) 109)).alloc (.cells (sdC t) 109)∧AtS W w.heap.size s∧AtS W (w.heap.size+1) t∧Below w.heap.size w W:=by
 have s1:(w.alloc (.cells (sdC s) 109)).heap.size=w.heap.size+1:=by simp
 have h2:AtS ((w.alloc (.cells (sdC s) 109)).alloc (.cells (sdC t) 109)) (w.alloc (.cells (sdC s) 109)).heap.size t:=heap_alloc_new _ _
 rw [s1] at h2
 have h1:AtS (w.alloc (.cells (sdC s) 109)) w.heap.size s:=heap_alloc_new _ _
 exact ⟨_,rfl,h1.old _,h2,((Below.refl _ w).alloc (Nat.le_refl _) _).alloc (by rw [s1];omega) _⟩
theorem Q9i (a b c d:Pt) (w:World):Calls Try.prog 83 #[ptA a,ptA b,ptA c,ptA d] w fun e w'=>e=.returned (.int .i64 (meetC a b c d))∧Below w.heap.size w w':=by
 rw [Q5u]
 exact Qan a b c d w
theorem Q8q (s:Sd) (p:Pt) (w:World):Calls Try.prog 84 #[sdA s,ptA p] w fun e w'=>e=.returned (.bool (endV s p))∧Below w.heap.size w w':=Q32.calls _ _ _ _ _ _ _ _ _ _ _ _ _ _ w (Qg9 s p)
set_option maxHeartbeats 16000000 in
set_option maxRecDepth 100000 in
theorem Qbu (s t:Sd) (w:World) (hs:0≤s.f3∧s.f3≤100000000):Calls Try.prog 77 #[sdA s,sdA t] w fun e w'=>e=.returned (.bool (mayV s t))∧Below w.heap.size w w':=by
 have hu27:=Try.underlying27
 have hu109:=Try.underlying109
 have hm:=fun W=>Q9i s.f0 s.f1 t.f0 t.f1 W
 have HR:=Aside0.mk (show mayV s t=if meetC s.f0 s.f1 t.f0 t.f1=1 then finV s t (pickV s t) else meetC s.f0 s.f1 t.f0 t.f1==0 from rfl)
 obtain ⟨W,hW,gs,gt,hB⟩:=boxS w s t
 generalize mayV s t=R at *
 generalize meetC s.f0 s.f1 t.f0 t.f1=n at *
 go_enter Try.func77,Try.ntmps77
 go_upto_region 1 with (go_step3)
 rw [← hW]
 clear hW
 obtain ⟨a0,a1,a2,a3,a4,a5,a6,a7,a8,a9⟩:=gs.c
 obtain ⟨b0,b1,b2,b3,b4,b5,b6,b7,b8,b9⟩:=gt.c
 by_cases hn:n=1
 ·subst hn
  have HR2:=Aside0.mk (show R=finV s t (pickV s t) by rw [HR.out,if_pos rfl])
  clear HR
  go_upto_region 4 with (first|(go_at_call 83;with_reducible refine (hm _).mono ?_;rintro e w2 ⟨rfl,hb2⟩)|go_step3)
  have gs:=gs.below hb2
  have gt:=gt.below hb2
  have hB:=Q0j hB hb2
  obtain ⟨a0,a1,a2,a3,a4,a5,a6,a7,a8,a9⟩:=gs.c
  obtain ⟨b0,b1,b2,b3,b4,b5,b6,b7,b8,b9⟩:=gt.c
  go_upto_region 5 with (go_step3)
  have hl1:=Q25 gs
  have hl2:=Q25 gt
  have gp:=At.new w2 s.f0
  have gs:=gs.old (ptO s.f0)
  have gt:=gt.old (ptO s.f0)
  have hB:=hB.alloc (by omega) (ptO s.f0)
  generalize w2.alloc (ptO s.f0)=W3 at gp gs gt hB ⊢
  clear hb2
  generalize w2.heap.size=g6 at *
  obtain ⟨a0,a1,a2,a3,a4,a5,a6,a7,a8,a9⟩:=gs.c
  obtain ⟨b0,b1,b2,b3,b4,b5,b6,b7,b8,b9⟩:=gt.c
  go_upto_block 0 with (first|((with_reducible refine Q0i (N:=30) rfl ?_);refine lit3b ?hg (N:=30) ?hd s.f1 t.f0 t.f1 ?hr ?_;(case hd=>rfl);(case hg=>rfl);(case hr=>first|(go_simp;done)|(go_simp;rfl));intro w3 hL hb3)|go_step3)
  have hl3:=Q25 gp
  have gs:=gs.below hb3
  have gt:=gt.below hb3
  have gp:=gp.below hb3
  have hB:=Q0j hB hb3
  clear hb3 hm
  generalize W3.heap.size=gl at *
  generalize hAd:(⟨gl,0,none⟩:Addr)=ad0 at *
  have HAD:=Aside0.mk hAd
  clear hAd
  go_wp2_with (go_step3)
  go_loopw [32] (fun v wr=>∃ (i:Nat) (p:Pt),i≤3∧v=.int .i64 i∧AtS wr w.heap.size s∧AtS wr (w.heap.size+1) t∧At wr g6 p∧Li wr gl s.f1 t.f0 t.f1∧Aside0 (([s.f1,t.f0,t.f1].drop i).foldl (pk s t) p=pickV s t)∧Below w.heap.size w wr) (fun v _=>3 - (intV v).toNat)
  case atStart=>exact ⟨0,s.f0,by omega,rfl,gs,gt,gp,hL,⟨rfl⟩,hB⟩
  case round =>
   clear a0 a1 a2 a3 a4 a5 a6 a7 a8 a9 b0 b1 b2 b3 b4 b5 b6 b7 b8 b9 gs gt gp hL hB
   obtain ⟨i,p,hi,rfl,gs,gt,gp,hL,HP,hB⟩:=hrel
   obtain ⟨a0,a1,a2,a3,a4,a5,a6,a7,a8,a9⟩:=gs.c
   obtain ⟨b0,b1,b2,b3,b4,b5,b6,b7,b8,b9⟩:=gt.c
   have p0:=gp.c0
   have p1:=gp.c1
   have p2:=gp.c2
   rcases Nat.lt_or_ge i 3 with hlt|hge
   ·have hii:(i:Int)<3:=by omega
    have hib:decide ((i:Int)<3)=true:=decide_eq_true hii
    have hLC:=hL.C
    rw [HAD.out] at hLC
    obtain ⟨ad,eA,y0,y1,y2⟩:=Q2i hLC (i:Int) (by omega) hii
    obtain rfl:=Option.some.inj eA
    rw [show Q0a [s.f1,t.f0,t.f1] (i:Int)=[s.f1,t.f0,t.f1][i] from rdp [s.f1,t.f0,t.f1] i hlt] at y0 y1 y2
    rw [Int.toNat_natCast] at y0 y1 y2
    have hdr:([s.f1,t.f0,t.f1].drop i).foldl (pk s t) p=([s.f1,t.f0,t.f1].drop (i+1)).foldl (pk s t) (pk s t p [s.f1,t.f0,t.f1][i]):=by rw [List.drop_eq_getElem_cons hlt];rfl
    have HD:=Aside0.mk (hdr.symm.trans HP.out)
    have HPK:=Aside0.mk (show ∀ x,pk s t p x=if (onB p s.f0 s.f1&&onB p t.f0 t.f1)=true then p else x from fun _=>rfl)
    have hO1:=fun W=>Q41 p s.f0 s.f1 W
    have hO2:=fun W=>Q41 p t.f0 t.f1 W
    clear hdr HP hLC
    generalize [s.f1,t.f0,t.f1][i]=x at *
    generalize onB p s.f0 s.f1=o1 at *
    generalize onB p t.f0 t.f1=o2 at *
    go_upto_region 8 with (go_step3)
    have gx:=At.new wr x
    have hll:=Q25 gp
    have gs:=gs.old (ptO x)
    have gt:=gt.old (ptO x)
    have gp:=gp.old (ptO x)
    have hL:=hL.old (ptO x)
    have hB:=hB.alloc (Nat.le_of_lt (Qgd hB hll hl1)) (ptO x)
    clear y0 y1 y2 a0 a1 a2 a3 a4 a5 a6 a7 a8 a9 b0 b1 b2 b3 b4 b5 b6 b7 b8 b9 p0 p1 p2
    generalize wr.alloc (ptO x)=W8 at *
    generalize wr.heap.size=g8 at *
    obtain ⟨a0,a1,a2,a3,a4,a5,a6,a7,a8,a9⟩:=gs.c
    obtain ⟨b0,b1,b2,b3,b4,b5,b6,b7,b8,b9⟩:=gt.c
    have p0:=gp.c0
    have p1:=gp.c1
    have p2:=gp.c2
    have hn1:w.heap.size≠g6:=by omega
    have hn2:w.heap.size+1≠g6:=by omega
    have hn3:gl≠g6:=by omega
    have hn4:w.heap.size≤g6:=by omega
    have hi1:3 - (intV (Value.int IntKind.i64 ((i:Int)+1))).toNat<3 - (intV (Value.int IntKind.i64 (i:Int))).toNat:=by simp [intV];omega
    have HW:=Aside0.mk hi1
    clear hi1 HAD
    cases o1
    ·have HN:=Aside0.mk (show ([s.f1,t.f0,t.f1].drop (i+1)).foldl (pk s t) x=pickV s t by have:=HD.out;rw [HPK.out] at this;simpa using this)
     clear HD HPK
     go_wp2_with (first|(go_at_call 59;(with_reducible first|refine (hO1 _).mono ?_|refine (hO2 _).mono ?_);rintro e w5 ⟨rfl,hb5⟩;have gs:=gs.below hb5;have gt:=gt.below hb5;have gp:=gp.below hb5;have gx:=gx.below hb5;have hL:=hL.below hb5;have hB:=Q0j hB hb5;clear hb5;obtain ⟨a0,a1,a2,a3,a4,a5,a6,a7,a8,a9⟩:=gs.c;obtain ⟨b0,b1,b2,b3,b4,b5,b6,b7,b8,b9⟩:=gt.c;have p0:=gp.c0;have p1:=gp.c1;have p2:=gp.c2;have q0:=gx.c0;have q1:=gx.c1;have q2:=gx.c2;have f0:=Q0k gp 0;have f1:=Q0k gp 1;have f2:=Q0k gp 2)|go_step3)
     go_roundw
     case rel=>exact ⟨i+1,x,by omega,rfl,gs.far hn1 x,gt.far hn2 x,gp.put x,hL.far hn3 x,HN,Q4c hB hn4 x⟩
     case measure=>exact HW.out
    ·cases o2
     ·have HN:=Aside0.mk (show ([s.f1,t.f0,t.f1].drop (i+1)).foldl (pk s t) x=pickV s t by have:=HD.out;rw [HPK.out] at this;simpa using this)
      clear HD HPK
      go_wp2_with (first|(go_at_call 59;(with_reducible first|refine (hO1 _).mono ?_|refine (hO2 _).mono ?_);rintro e w5 ⟨rfl,hb5⟩;have gs:=gs.below hb5;have gt:=gt.below hb5;have gp:=gp.below hb5;have gx:=gx.below hb5;have hL:=hL.below hb5;have hB:=Q0j hB hb5;clear hb5;obtain ⟨a0,a1,a2,a3,a4,a5,a6,a7,a8,a9⟩:=gs.c;obtain ⟨b0,b1,b2,b3,b4,b5,b6,b7,b8,b9⟩:=gt.c;have p0:=gp.c0;have p1:=gp.c1;have p2:=gp.c2;have q0:=gx.c0;have q1:=gx.c1;have q2:=gx.c2;have f0:=Q0k gp 0;have f1:=Q0k gp 1;have f2:=Q0k gp 2)|go_step3)
      go_roundw
      case rel=>exact ⟨i+1,x,by omega,rfl,gs.far hn1 x,gt.far hn2 x,gp.put x,hL.far hn3 x,HN,Q4c hB hn4 x⟩
      case measure=>exact HW.out
     ·have HN:=Aside0.mk (show ([s.f1,t.f0,t.f1].drop (i+1)).foldl (pk s t) p=pickV s t by have:=HD.out;rw [HPK.out] at this;simpa using this)
      clear HD HPK
      go_wp2_with (first|(go_at_call 59;(with_reducible first|refine (hO1 _).mono ?_|refine (hO2 _).mono ?_);rintro e w5 ⟨rfl,hb5⟩;have gs:=gs.below hb5;have gt:=gt.below hb5;have gp:=gp.below hb5;have gx:=gx.below hb5;have hL:=hL.below hb5;have hB:=Q0j hB hb5;clear hb5;obtain ⟨a0,a1,a2,a3,a4,a5,a6,a7,a8,a9⟩:=gs.c;obtain ⟨b0,b1,b2,b3,b4,b5,b6,b7,b8,b9⟩:=gt.c;have p0:=gp.c0;have p1:=gp.c1;have p2:=gp.c2;have q0:=gx.c0;have q1:=gx.c1;have q2:=gx.c2;have f0:=Q0k gp 0;have f1:=Q0k gp 1;have f2:=Q0k gp 2)|go_step3)
      go_roundw
      case rel=>exact ⟨i+1,p,by omega,rfl,gs,gt,gp,hL,HN,hB⟩
      case measure=>exact HW.out
   ·have hib:decide ((i:Int)<3)=false:=decide_eq_false (by omega)
    have hii:¬ (i:Int)<3:=by omega
    have hp:p=pickV s t:=by
     have:=HP.out
     rw [List.drop_of_length_le (by show 3≤i;omega)] at this
     exact this
    have HF:=Aside0.mk (show R=((s.f2==t.f2&&(s.f3+1==t.f3&&Gr.eqP p s.f1)) || (endV s p&&endV t p)) by rw [HR2.out,← hp];rfl)
    have hE1:=fun W=>Q8q s p W
    have hE2:=fun W=>Q8q t p W
    have heq:Gr.eqP p s.f1=(p.f0==s.f1.f0&&(p.f1==s.f1.f1&&(p.f2==s.f1.f2))):=rfl
    have hw:wrap64 (s.f3+1)=s.f3+1:=Qax _ (by omega)
    rw [heq] at HF
    clear HP hp HR2 HAD hL heq
    generalize endV s p=e1 at *
    generalize endV t p=e2 at *
    have HW:=Aside0.mk hw
    clear hw
    cases hc1:(s.f2==t.f2)
    ·rw [hc1,Bool.false_and,Bool.false_or] at HF
     cases e1<;>cases e2<;>(
      go_wp2_with (first|(go_at_call 84;(with_reducible first|refine (hE1 _).mono ?_|refine (hE2 _).mono ?_);rintro e w5 ⟨rfl,hb5⟩;have gs:=gs.below hb5;have gt:=gt.below hb5;have gp:=gp.below hb5;have hB:=Q0j hB hb5;clear hb5;obtain ⟨a0,a1,a2,a3,a4,a5,a6,a7,a8,a9⟩:=gs.c;obtain ⟨b0,b1,b2,b3,b4,b5,b6,b7,b8,b9⟩:=gt.c;have p0:=gp.c0;have p1:=gp.c1;have p2:=gp.c2)|go_step3)
      go_ret
      exact ⟨by rw [HF.out];rfl,hB⟩)
    ·rw [hc1,Bool.true_and] at HF
     have hw:=HW.out
     cases hc2:(s.f3+1==t.f3)
     ·rw [hc2,Bool.false_and,Bool.false_or] at HF
      cases e1<;>cases e2<;>(
       go_wp2_with (first|(go_at_call 84;(with_reducible first|refine (hE1 _).mono ?_|refine (hE2 _).mono ?_);rintro e w5 ⟨rfl,hb5⟩;have gs:=gs.below hb5;have gt:=gt.below hb5;have gp:=gp.below hb5;have hB:=Q0j hB hb5;clear hb5;obtain ⟨a0,a1,a2,a3,a4,a5,a6,a7,a8,a9⟩:=gs.c;obtain ⟨b0,b1,b2,b3,b4,b5,b6,b7,b8,b9⟩:=gt.c;have p0:=gp.c0;have p1:=gp.c1;have p2:=gp.c2)|go_step3)
       go_ret
       exact ⟨by rw [HF.out];rfl,hB⟩)
     ·rw [hc2,Bool.true_and] at HF
      have HQ:(p.f0==s.f1.f0)=false∨(p.f0==s.f1.f0)=true∧(p.f1==s.f1.f1)=false∨(p.f0==s.f1.f0)=true∧(p.f1==s.f1.f1)=true∧(p.f2==s.f1.f2)=false∨(p.f0==s.f1.f0)=true∧(p.f1==s.f1.f1)=true∧(p.f2==s.f1.f2)=true:=by
       cases (p.f0==s.f1.f0)<;>cases (p.f1==s.f1.f1)<;>cases (p.f2==s.f1.f2)<;>simp
      rcases HQ with h|⟨h,h'⟩|⟨h,h',h''⟩|⟨h,h',h''⟩
      ·rw [h,Bool.false_and,Bool.false_or] at HF
       cases e1<;>cases e2<;>(
        go_wp2_with (first|(go_at_call 84;(with_reducible first|refine (hE1 _).mono ?_|refine (hE2 _).mono ?_);rintro e w5 ⟨rfl,hb5⟩;have gs:=gs.below hb5;have gt:=gt.below hb5;have gp:=gp.below hb5;have hB:=Q0j hB hb5;clear hb5;obtain ⟨a0,a1,a2,a3,a4,a5,a6,a7,a8,a9⟩:=gs.c;obtain ⟨b0,b1,b2,b3,b4,b5,b6,b7,b8,b9⟩:=gt.c;have p0:=gp.c0;have p1:=gp.c1;have p2:=gp.c2)|go_step3)
        go_ret
        exact ⟨by rw [HF.out];rfl,hB⟩)
      ·rw [h,h',Bool.true_and,Bool.false_and,Bool.false_or] at HF
       cases e1<;>cases e2<;>(
        go_wp2_with (first|(go_at_call 84;(with_reducible first|refine (hE1 _).mono ?_|refine (hE2 _).mono ?_);rintro e w5 ⟨rfl,hb5⟩;have gs:=gs.below hb5;have gt:=gt.below hb5;have gp:=gp.below hb5;have hB:=Q0j hB hb5;clear hb5;obtain ⟨a0,a1,a2,a3,a4,a5,a6,a7,a8,a9⟩:=gs.c;obtain ⟨b0,b1,b2,b3,b4,b5,b6,b7,b8,b9⟩:=gt.c;have p0:=gp.c0;have p1:=gp.c1;have p2:=gp.c2)|go_step3)
        go_ret
        exact ⟨by rw [HF.out];rfl,hB⟩)
      ·rw [h,h',h'',Bool.true_and,Bool.true_and,Bool.false_or] at HF
       cases e1<;>cases e2<;>(
        go_wp2_with (first|(go_at_call 84;(with_reducible first|refine (hE1 _).mono ?_|refine (hE2 _).mono ?_);rintro e w5 ⟨rfl,hb5⟩;have gs:=gs.below hb5;have gt:=gt.below hb5;have gp:=gp.below hb5;have hB:=Q0j hB hb5;clear hb5;obtain ⟨a0,a1,a2,a3,a4,a5,a6,a7,a8,a9⟩:=gs.c;obtain ⟨b0,b1,b2,b3,b4,b5,b6,b7,b8,b9⟩:=gt.c;have p0:=gp.c0;have p1:=gp.c1;have p2:=gp.c2)|go_step3)
        go_ret
        exact ⟨by rw [HF.out];rfl,hB⟩)
      ·rw [h,h',h'',Bool.true_and,Bool.true_and,Bool.true_or] at HF
       go_wp2_with (first|(go_at_call 84;(with_reducible first|refine (hE1 _).mono ?_|refine (hE2 _).mono ?_);rintro e w5 ⟨rfl,hb5⟩;have gs:=gs.below hb5;have gt:=gt.below hb5;have gp:=gp.below hb5;have hB:=Q0j hB hb5;clear hb5;obtain ⟨a0,a1,a2,a3,a4,a5,a6,a7,a8,a9⟩:=gs.c;obtain ⟨b0,b1,b2,b3,b4,b5,b6,b7,b8,b9⟩:=gt.c;have p0:=gp.c0;have p1:=gp.c1;have p2:=gp.c2)|go_step3)
       go_ret
       exact ⟨by rw [HF.out];rfl,hB⟩
 ·have HRF:=Aside0.mk (show R=(n==0) by rw [HR.out,if_neg hn])
  have hnb:(n != 1)=true:=by simpa using hn
  clear HR hn
  go_wp2_with (first|(go_at_call 83;with_reducible refine (hm _).mono ?_;rintro e w2 ⟨rfl,hb2⟩)|go_step3)
  go_ret
  exact ⟨by rw [HRF.out];rfl,Q0j hB hb2⟩
end Go.Proofs.Ytbonkedecfjmdaa.Pl

namespace Go.Proofs.Ytbonkedecfjmdaa.Pl
set_option linter.unusedVariables false
set_option linter.unusedSimpArgs false
open Go Go.RowKit Go.Proofs.Ytbonkedecfjmdaa.P Go.Proofs.Ytbonkedecfjmdaa.G Go.Proofs.YtbonkedecfjmdaaW.PrintWords Go.Proofs.YtbonkedecfjmdaaW.PrintLast Go.Proofs.YtbonkedecfjmdaaW.PrintMore
def badV:List Sd→Bool
 | []=>false
 | s :: t=>t.any (fun x => !mayV s x) || badV t
def meetsV (m:List (List Pt)):Bool:=decide (arcsV m=0)&&badV (sidesV 0 m)
theorem Qgy (L:List Sd) (i:Nat) (h:i<L.length):Q4e L (i:Int)=L[i]:=by simp [Q4e,List.getD,List.getElem?_eq_getElem h]
theorem Q9v:∀ (m:List (List Pt)) (k:Nat),(∀ a∈m,a.length≤1048576)→∀ s∈sidesV k m,0≤s.f3∧s.f3≤100000000
 | [],_,_,s,h=>by simp [sidesV] at h
 | a :: m,k,hx,s,h=>by
  rcases List.mem_append.1 h with h|h
  ·unfold sidesA at h
   obtain ⟨i,hi,rfl⟩:=List.mem_map.1 h
   have:=hx a (List.mem_cons_self ..)
   rw [List.mem_range'] at hi
   obtain ⟨j,hj,rfl⟩:=hi
   unfold sideAt
   show (0:Int)≤((0+1*j+1:Nat):Int)∧((0+1*j+1:Nat):Int)≤100000000
   omega
  ·exact Q9v m (k+1) (fun b hb=>hx b (List.mem_cons_of_mem _ hb)) s h
theorem Q81:∀ (m:List (List Pt)) (k:Nat),(sidesV k m).length≤(m.map List.length).sum
 | [],_=>by simp [sidesV]
 | a :: m,k=>by
  have:=Q81 m (k+1)
  rw [sidesV,List.length_append,List.map_cons,List.sum_cons]
  unfold sidesA
  rw [List.length_map,List.length_range']
  omega
set_option maxHeartbeats 8000000 in
set_option maxRecDepth 100000 in
theorem Q9b (A0 A1 A2:Option Addr) (c0 c1 c2:Nat) (m:List (List Pt)) (r p:List (List Int)) (w:World) (hr0:Kd.C (Kd.slice 27 k27) w A0 m.length m) (hc0:m.length≤c0) (hr1:Kd.C (Kd.slice 3 (Kd.int .i64)) w A1 r.length r) (hc1:r.length≤c1) (hr2:Kd.C (Kd.slice 3 (Kd.int .i64)) w A2 p.length p) (hc2:p.length≤c2)
  (hm:m.length≤1048576) (hx:∀ a∈m,a.length≤1048576) :
  Calls Try.prog 57 #[.agg #[.slice A0 m.length c0,.slice A1 r.length c1,.slice A2 p.length c2]] w fun e w'=>e=.returned (.bool (meetsV m))∧Below w.heap.size w w':=by
 have hu25:=Try.underlying25
 have hu109:=Try.underlying109
 obtain ⟨K,hK⟩:=Qb6 m hm hx
 have harc:=fun W h=>Q0o.calls K A0 c0 m (arcsV m) W (Kd.Q12 hr0 h) hc0 (hK K (Nat.le_refl _))
 clear hK
 obtain ⟨K2,hK2⟩:=Qeg m r p hm hx
 have hsides:=fun W (h:Below w.heap.size w W)=>Q05.calls K2 A0 c0 m A1 c1 r A2 c2 p (sidesV 0 m) W (Kd.Q12 hr0 h) hc0 (Kd.Q12 hr1 h) hc1 (Kd.Q12 hr2 h) hc2 (hK2 K2 (Nat.le_refl _))
 clear hK2
 have hsm:=Q9v m 0 hx
 have hsl:=Q81 m 0
 have hmv:meetsV m=(decide (arcsV m=0)&&badV (sidesV 0 m)):=rfl
 have hlong:arcsV m=0→(m.map List.length).sum≤20000:=by
  intro h
  unfold arcsV at h
  split at h
  ·simp at h
  ·omega
 generalize sidesV 0 m=L at *
 generalize meetsV m=R at *
 by_cases he:arcsV m=0
 ·have hL:=hlong he
  rw [decide_eq_true he,Bool.true_and] at hmv
  rw [he] at harc
  have HMV:=Aside0.mk hmv
  clear hmv hlong he
  have hLn:L.length≤20000:=by omega
  clear hsl hL
  go_enter Try.func57,Try.ntmps57
  go_upto_region 3 with (first|(go_at_call 56;refine (harc _ ((Below.refl _ w).alloc (Nat.le_refl _) _)).mono ?_;rintro e w2 ⟨rfl,hb2⟩)|go_step3)
  have hB1:Below w.heap.size w (w.alloc (.cells #[.slice A0 m.length c0,.slice A1 r.length c1,.slice A2 p.length c2] 25)):=(Below.refl _ w).alloc (Nat.le_refl _) _
  have hB2:=Q0j hB1 hb2
  have hg:=Q1p (heap_alloc_new w (.cells #[.slice A0 m.length c0,.slice A1 r.length c1,.slice A2 p.length c2] 25)) hb2
  have x0:w2.cell? ⟨w.heap.size,0,none⟩=some (.slice A0 m.length c0):=(Q0v hg 0).trans rfl
  have x1:w2.cell? ⟨w.heap.size,1,none⟩=some (.slice A1 r.length c1):=(Q0v hg 1).trans rfl
  have x2:w2.cell? ⟨w.heap.size,2,none⟩=some (.slice A2 p.length c2):=(Q0v hg 2).trans rfl
  have hs2:=hsides w2 hB2
  clear harc hsides hb2 hB1 hg
  go_upto_region 4 with (first|(go_at_call 76;refine hs2.mono ?_;rintro e w3 ⟨v3,rfl,ho3,hb3⟩)|go_step3)
  obtain ⟨A3,c3,e3⟩:=Kd.Q01 ho3
  subst e3
  have hr3:=Kd.Q0w ho3
  have hB3:=Q0j hB2 hb3
  clear x0 x1 x2 hs2 ho3 hb3 hB2
  go_wp2_with (go_step3)
  go_loopw [4,17] (fun bv v wr=>∃ i:Nat,i≤L.length∧v=.int .i64 i∧bv=.bool false∧Aside0 (R=badV (L.drop i))∧Below w3.heap.size w3 wr) (fun _ v _=>L.length - (intV v).toNat)
  case atStart=>exact ⟨0,by omega,rfl,rfl,⟨HMV.out⟩,Below.refl _ _⟩
  case round =>
   obtain ⟨i,hi,rfl,rfl,HR,hB⟩:=hrel
   rcases Nat.lt_or_ge i L.length with hlt|hge
   ·have hii:(i:Int)<(L.length:Int):=by omega
    have hib:decide ((i:Int)<(L.length:Int))=true:=decide_eq_true hii
    have hCr:=Kd.Q12 hr3.2.2 hB
    obtain ⟨ad,eA,y0,y1,y2,y3,y4,y5,y6,y7,y8,y9⟩:=Qci hCr (i:Int) (by omega) hii
    subst eA
    rw [Qgy L i hlt,Int.toNat_natCast] at y0 y1 y2 y3 y4 y5 y6 y7 y8 y9
    have hsi:=hsm _ (List.getElem_mem hlt)
    have hdrop:L.drop i=L[i] :: L.drop (i+1):=List.drop_eq_getElem_cons hlt
    have HD:=Aside0.mk hdrop
    clear hdrop
    generalize L[i]=s at *
    obtain ⟨i0,hi0,hzz⟩:=Option.map_eq_some_iff.1 info109
    have hsz:i0.size=10:=by simp only [Prod.mk.injEq] at hzz;exact hzz.2.1
    have ec:((i:Int)+1).toNat=i+1:=by omega
    obtain ⟨A9,hcut,hC9⟩:∃ A9,(∀ W:World,(Instr.slice 106 (.slice (some ad) L.length c3) (some (.int .i64 ((i:Int)+1))) none none).run Try.prog W=.ok (.slice A9 (L.length - (i+1)) (c3 - (i+1))) W)∧(∀ W:World,Kd.C k109 W (some ad) L.length L→Kd.C k109 W A9 (L.drop (i+1)).length (L.drop (i+1))):=by
     have h:=Qdk (P:=Try.prog) 106 109 .i64 Try.underlying106 hi0 10 hsz (some ad) L.length c3 ((i:Int)+1) (by omega) (by omega)
     rw [ec] at h
     exact ⟨_,h,fun W hW=>Kd.Qg2 hW (by omega) hr3.2.1⟩
    have hT:=hC9 wr hCr
    have hTl:(L.drop (i+1)).length=L.length - (i+1):=List.length_drop
    have hsub:∀ x∈L.drop (i+1),0≤x.f3∧x.f3≤100000000:=fun x hx=>hsm x (List.mem_of_mem_drop hx)
    rw [← hTl] at hcut
    have hRT:R=((L.drop (i+1)).any (fun x => !mayV s x) || badV (L.drop (i+1))):=by rw [HR.out,HD.out];rfl
    have HRT:=Aside0.mk hRT
    have hTs:(L.drop (i+1)).length≤20000:=by omega
    clear hzz ec hi0 hsz hC9 hTl hRT HR HD hsub
    generalize hTD:L.drop (i+1)=T at *
    have HTD:=Aside0.mk hTD
    clear hTD
    go_upto_block 2 with (go_step3)
    clear y0 y1 y2 y3 y4 y5 y6 y7 y8 y9 hcut
    have hgs:=heap_alloc_new wr (.cells #[.int .i64 s.f0.f0,.int .i64 s.f0.f1,.int .i64 s.f0.f2,.int .i64 s.f1.f0,.int .i64 s.f1.f1,.int .i64 s.f1.f2,.int .i64 s.f2,.int .i64 s.f3,.bool s.f4,.bool s.f5] 109)
    have hba:Below wr.heap.size wr (wr.alloc (.cells #[.int .i64 s.f0.f0,.int .i64 s.f0.f1,.int .i64 s.f0.f2,.int .i64 s.f1.f0,.int .i64 s.f1.f1,.int .i64 s.f1.f2,.int .i64 s.f2,.int .i64 s.f3,.bool s.f4,.bool s.f5] 109)):=(Below.refl _ wr).alloc (Nat.le_refl _) _
    generalize wr.alloc (.cells #[.int .i64 s.f0.f0,.int .i64 s.f0.f1,.int .i64 s.f0.f2,.int .i64 s.f1.f0,.int .i64 s.f1.f1,.int .i64 s.f1.f2,.int .i64 s.f2,.int .i64 s.f3,.bool s.f4,.bool s.f5] 109)=w4 at hgs hba ⊢
    have hT4:=Kd.Q12 hT hba
    have hB4:=Q0j hB hba
    clear hT hCr hB hba
    generalize wr.heap.size=gs at hgs ⊢
    clear wr
    go_wp2_with (go_step3)
    go_loopw [4,27] (fun bv v wq=>∃ j:Nat,j≤T.length∧v=.int .i64 j∧bv=.bool false∧Aside0 (R=((T.drop j).any (fun x => !mayV s x) || badV T))∧Below w4.heap.size w4 wq) (fun _ v _=>T.length - (intV v).toNat)
    case atStart=>exact ⟨0,by omega,rfl,rfl,⟨HRT.out⟩,Below.refl _ _⟩
    case round =>
     obtain ⟨j,hj,rfl,rfl,HR2,hBq⟩:=hrel
     rcases Nat.lt_or_ge j T.length with hjt|hje
     ·have hji:(j:Int)<(T.length:Int):=by omega
      have hjb:decide ((j:Int)<(T.length:Int))=true:=decide_eq_true hji
      obtain ⟨ad2,eA2,y0,y1,y2,y3,y4,y5,y6,y7,y8,y9⟩:=Qci (Kd.Q12 hT4 hBq) (j:Int) (by omega) hji
      subst eA2
      rw [Qgy T j hjt,Int.toNat_natCast] at y0 y1 y2 y3 y4 y5 y6 y7 y8 y9
      have hmay:=fun W=>Qbu s T[j] W hsi
      have hdrop:T.drop j=T[j] :: T.drop (j+1):=List.drop_eq_getElem_cons hjt
      have hRj:=HR2.out
      rw [hdrop,List.any_cons] at hRj
      have HRJ:=Aside0.mk hRj
      have hgq:=Q1p hgs hBq
      have z0:wr.cell? ⟨gs,0,none⟩=some (.int .i64 s.f0.f0):=(Q0v hgq 0).trans rfl
      have z1:wr.cell? ⟨gs,1,none⟩=some (.int .i64 s.f0.f1):=(Q0v hgq 1).trans rfl
      have z2:wr.cell? ⟨gs,2,none⟩=some (.int .i64 s.f0.f2):=(Q0v hgq 2).trans rfl
      have z3:wr.cell? ⟨gs,3,none⟩=some (.int .i64 s.f1.f0):=(Q0v hgq 3).trans rfl
      have z4:wr.cell? ⟨gs,4,none⟩=some (.int .i64 s.f1.f1):=(Q0v hgq 4).trans rfl
      have z5:wr.cell? ⟨gs,5,none⟩=some (.int .i64 s.f1.f2):=(Q0v hgq 5).trans rfl
      have z6:wr.cell? ⟨gs,6,none⟩=some (.int .i64 s.f2):=(Q0v hgq 6).trans rfl
      have z7:wr.cell? ⟨gs,7,none⟩=some (.int .i64 s.f3):=(Q0v hgq 7).trans rfl
      have z8:wr.cell? ⟨gs,8,none⟩=some (.bool s.f4):=(Q0v hgq 8).trans rfl
      have z9:wr.cell? ⟨gs,9,none⟩=some (.bool s.f5):=(Q0v hgq 9).trans rfl
      clear hdrop hRj HR2
      generalize T[j]=x at *
      have hlt:=Q25 hgq
      have hne:gs≠wr.heap.size:=by omega
      have hne2:wr.heap.size≠gs:=by omega
      clear hgq
      go_upto_region 11 with (go_step3)
      clear y0 y1 y2 y3 y4 y5 y6 y7 y8 y9
      have hgs5:(wr.alloc (.cells #[.int .i64 x.f0.f0,.int .i64 x.f0.f1,.int .i64 x.f0.f2,.int .i64 x.f1.f0,.int .i64 x.f1.f1,.int .i64 x.f1.f2,.int .i64 x.f2,.int .i64 x.f3,.bool x.f4,.bool x.f5] 109)).heap.size=wr.heap.size+1:=by simp
      have hB5:=Q14 hBq (.cells #[.int .i64 x.f0.f0,.int .i64 x.f0.f1,.int .i64 x.f0.f2,.int .i64 x.f1.f0,.int .i64 x.f1.f1,.int .i64 x.f1.f2,.int .i64 x.f2,.int .i64 x.f3,.bool x.f4,.bool x.f5] 109)
      cases hmv:mayV s x with
      | true =>
       rw [hmv] at hmay HRJ
       clear hmv
       go_wp2_with (first|(go_at_call 77;refine (hmay _).mono ?_;rintro e w6 ⟨rfl,hb6⟩)|go_step3)
       go_roundw
       case rel=>exact ⟨j+1,by omega,rfl,rfl,⟨by rw [HRJ.out];rfl⟩,Q0j hB5 hb6⟩
       case measure=>simp [intV];omega
      | false =>
       rw [hmv] at hmay HRJ
       clear hmv
       go_wp2_with (first|(go_at_call 77;refine (hmay _).mono ?_;rintro e w6 ⟨rfl,hb6⟩)|go_step3)
       rw [Exit.noGoto_ret]
       go_ret
       exact ⟨by rw [HRJ.out];rfl,Q0j hB3 (Q0j hB4 (Q0j hB5 hb6))⟩
     ·have hji:¬ (j:Int)<(T.length:Int):=by omega
      have hjb:decide ((j:Int)<(T.length:Int))=false:=decide_eq_false hji
      have hRe:R=badV T:=by rw [HR2.out,List.drop_of_length_le hje];rfl
      have HRE:=Aside0.mk hRe
      clear hRe HR2
      go_wp2_with (go_step3)
      go_roundw
      case rel=>exact ⟨i+1,by omega,rfl,rfl,⟨by rw [HTD.out];exact HRE.out⟩,Q0j hB4 hBq⟩
      case measure=>simp [intV];omega
   ·have hii:¬ (i:Int)<(L.length:Int):=by omega
    have hib:decide ((i:Int)<(L.length:Int))=false:=decide_eq_false hii
    have hRe:R=false:=by rw [HR.out,List.drop_of_length_le hge];rfl
    have HRE:=Aside0.mk hRe
    clear hRe HR
    go_wp2_with (go_step3)
    go_ret
    exact ⟨by rw [HRE.out];rfl,Q0j hB3 hB⟩
 ·rw [decide_eq_false he,Bool.false_and] at hmv
  have heb:(arcsV m != 0)=true:=bne_iff_ne.mpr he
  clear hlong he
  subst hmv
  go_enter Try.func57,Try.ntmps57
  go_wp2_with (first|(go_at_call 56;refine (harc _ ((Below.refl _ w).alloc (Nat.le_refl _) _)).mono ?_;rintro e w2 ⟨rfl,hb2⟩)|go_step3)
  rw [Exit.noGoto_ret]
  go_ret
  exact ⟨rfl,Q0j ((Below.refl _ w).alloc (Nat.le_refl _) _) hb2⟩
end Go.Proofs.Ytbonkedecfjmdaa.Pl

namespace Go.Proofs.Ytbonkedecfjmdaa.Pl
set_option linter.unusedVariables false
set_option linter.unusedSimpArgs false
open Go.RowKit Go.Proofs.Ytbonkedecfjmdaa.P Go.Proofs.Ytbonkedecfjmdaa.G Go.Proofs.Ytbonkedecfjmdaa.WL Go.Proofs.YtbonkedecfjmdaaW.PrintWords Go.Proofs.YtbonkedecfjmdaaW.PrintLast Go.Proofs.YtbonkedecfjmdaaW.PrintMore
def endA (a:List Pt) (i:Nat) (p:Pt):Bool:=(decide (i=0)&&Gr.eqP p (pa a 0)) || (decide (i+2=a.length)&&Gr.eqP p (pa a (a.length - 1)))
def fin1 (a:List Pt) (i k:Nat) (same:Bool) (p:Pt):Bool:=(same&&(decide (k=i+1)&&Gr.eqP p (pa a k))) || (same&&(decide (i=k+1)&&Gr.eqP p (pa a i)))
def finC (a:List Pt) (i:Nat) (b:List Pt) (k:Nat) (same:Bool) (p:Pt):Bool:=fin1 a i k same p || (endA a i p&&endA b k p)
def comL (a:List Pt) (i:Nat) (b:List Pt) (k:Nat) (same:Bool):List Pt→Bool
 | []=>false
 | p :: t=>if (onB p (pa a i) (pa a (i+1))&&onB p (pa b k) (pa b (k+1)))=true then finC a i b k same p else comL a i b k same t
def commonV (a:List Pt) (i:Nat) (b:List Pt) (k:Nat) (same:Bool):Bool :=
 if meetC (pa a i) (pa a (i+1)) (pa b k) (pa b (k+1))=0 then true else if meetC (pa a i) (pa a (i+1)) (pa b k) (pa b (k+1))>1 then false
 else comL a i b k same [pa a i,pa a (i+1),pa b k,pa b (k+1)]
theorem Qds (a b c d:Pt):meetC c d a b=meetC a b c d:=by
 rw [Q5u,Q5u]
 unfold meetV
 rw [Q7o]
 cases rt a<;>cases rt b<;>cases rt c<;>cases rt d<;>rfl
theorem Q8x (a b c d:Pt):meetC a b c d=0∨meetC a b c d=1∨meetC a b c d>1:=by
 unfold meetC
 split
 ·split
  ·exact .inr (.inr (by decide))
  ·split
   ·exact .inr (.inl rfl)
   ·split
    ·exact .inr (.inr (by decide))
    ·exact .inl rfl
 ·exact .inl rfl
theorem meet1 {a b c d:Pt} (h:meetC a b c d=1):one_ a b c d∧¬ two_ a b c d:=by
 rw [Q5u] at h
 unfold meetV meetM crsV at h
 split at h
 ·split at h
  ·cases h
  ·rename_i h2
   split at h
   ·rename_i h1
    exact ⟨h1,h2⟩
   ·split at h<;>cases h
 ·cases h
theorem Qcw (x a b c d:Pt):both x c d a b=both x a b c d:=Bool.and_comm _ _
theorem Q6i (a:List Pt) (i:Nat) (b:List Pt) (k:Nat) (same:Bool) (p:Pt):∀ L:List Pt,L.find? (fun x=>both x (pa a i) (pa a (i+1)) (pa b k) (pa b (k+1)))=some p→comL a i b k same L=finC a i b k same p
 | [],h=>by cases h
 | q :: t,h=>by
  unfold comL
  rw [List.find?_cons] at h
  change (match both q (pa a i) (pa a (i+1)) (pa b k) (pa b (k+1)) with|true=>some q|false=>t.find? _)=some p at h
  change (if both q (pa a i) (pa a (i+1)) (pa b k) (pa b (k+1))=true then finC a i b k same q else comL a i b k same t)=_
  cases hb:both q (pa a i) (pa a (i+1)) (pa b k) (pa b (k+1)) with
  | true =>
   rw [hb] at h
   injection h with h
   rw [if_pos rfl,h]
  | false =>
   rw [hb] at h
   rw [if_neg (by decide)]
   exact Q6i a i b k same p t h
theorem Qa1 {s t:Sd} {p:Pt} (h:[s.f0,s.f1,t.f0,t.f1].find? (fun x=>both x s.f0 s.f1 t.f0 t.f1)=some p):pickV s t=p:=by
 unfold pickV pk
 simp only [List.find?_cons,List.find?_nil] at h
 cases h0:both s.f0 s.f0 s.f1 t.f0 t.f1<;>cases h1:both s.f1 s.f0 s.f1 t.f0 t.f1<;>cases h2:both t.f0 s.f0 s.f1 t.f0 t.f1<;>cases h3:both t.f1 s.f0 s.f1 t.f0 t.f1 <;>
  simp only [h0,h1,h2,h3,Bool.false_eq_true,if_false,if_true] at h ⊢ <;> first|exact Option.some.inj h|cases h
theorem Q9p {α:Type} {f:α→Bool} {L:List α} (h:∃ x,x∈L∧f x=true):∃ p,L.find? f=some p:=by
 cases hf:L.find? f with
 | some p=>exact ⟨p,rfl⟩
 | none =>
  obtain ⟨x,hx,hfx⟩:=h
  have:=List.find?_eq_none.1 hf x hx
  exact absurd hfx this
theorem Q9s (a b:List Pt) (i k:Nat) (same:Bool) (hs:same=true→a=b):commonV b k a i same=commonV a i b k same:=by
 unfold commonV
 rw [Qds (pa a i) (pa a (i+1)) (pa b k) (pa b (k+1))]
 rcases Q8x (pa a i) (pa a (i+1)) (pa b k) (pa b (k+1)) with h|h|h
 ·rw [if_pos h,if_pos h]
 ·rw [if_neg (by omega),if_neg (by omega),if_neg (by omega),if_neg (by omega)]
  obtain ⟨h1,h2⟩:=meet1 h
  obtain ⟨p,hp⟩:=Q9p h1
  have h1':∃ x,x∈[pa b k,pa b (k+1),pa a i,pa a (i+1)]∧both x (pa b k) (pa b (k+1)) (pa a i) (pa a (i+1))=true:=by
   obtain ⟨x,hx,hb⟩:=h1
   exact ⟨x,by simp only [List.mem_cons,List.not_mem_nil,or_false] at hx ⊢;(rcases hx with h|h|h|h<;>simp [h]),by rw [Qcw];exact hb⟩
  obtain ⟨q,hq⟩:=Q9p h1'
  rw [Q6i a i b k same p _ hp,Q6i b k a i same q _ hq]
  have e:q=p:=by
   have m1:=List.mem_of_find?_eq_some hp
   have m2:=List.mem_of_find?_eq_some hq
   have b1:=List.find?_some hp
   have b2:=List.find?_some hq
   rw [Qcw] at b2
   apply Classical.byContradiction
   intro hne
   exact h2 ⟨q,p,by simp only [List.mem_cons,List.not_mem_nil,or_false] at m2 ⊢;(rcases m2 with h|h|h|h<;>simp [h]),m1,b2,b1,hne⟩
  subst e
  unfold finC
  rw [Bool.and_comm (endA b k q)]
  congr 1
  unfold fin1
  cases same with
  | false=>rfl
  | true =>
   rw [hs rfl]
   exact Bool.or_comm _ _
 ·rw [if_neg (by omega),if_pos h,if_neg (by omega),if_pos h]
def lexLt (x i y k:Nat):Prop:=x<y∨(x=y∧i<k)
theorem sd_end (x:Nat) (a:List Pt) (i:Nat) (hi:i+1<a.length) (p:Pt):endV (sideAt x a i) p=endA a i p:=by
 unfold endV endA sideAt
 have e1:(((i+1:Nat):Int)==1)=decide (i=0):=by rw [Bool.eq_iff_iff,beq_iff_eq,decide_eq_true_iff];omega
 have e2:(((i+1:Nat):Int)==(a.length:Int) - 1)=decide (i+2=a.length):=by rw [Bool.eq_iff_iff,beq_iff_eq,decide_eq_true_iff];omega
 simp only [e1,e2]
 by_cases h0:i=0
 ·subst h0
  by_cases h2:0+2=a.length
  ·rw [show a.length - 1=0+1 by omega]
  ·rw [decide_eq_false h2,Bool.false_and,Bool.false_and]
 ·rw [decide_eq_false h0,Bool.false_and,Bool.false_and]
  by_cases h2:i+2=a.length
  ·rw [show a.length - 1=i+1 by omega]
  ·rw [decide_eq_false h2,Bool.false_and,Bool.false_and]
theorem Q6a (a b:List Pt) (x i y k:Nat) (hi:i+1<a.length) (hk:k+1<b.length) (h:lexLt x i y k) (hs:x=y→a=b):mayV (sideAt x a i) (sideAt y b k)=commonV a i b k (decide (x=y)):=by
 unfold mayV commonV
 have hm:meetC (sideAt x a i).f0 (sideAt x a i).f1 (sideAt y b k).f0 (sideAt y b k).f1=meetC (pa a i) (pa a (i+1)) (pa b k) (pa b (k+1)):=rfl
 rw [hm]
 rcases Q8x (pa a i) (pa a (i+1)) (pa b k) (pa b (k+1)) with h0|h0|h0
 ·rw [if_pos h0,if_neg (by omega),h0];rfl
 ·rw [if_pos h0,if_neg (by omega),if_neg (by omega)]
  obtain ⟨h1,_⟩:=meet1 h0
  obtain ⟨p,hp⟩:=Q9p h1
  rw [Q6i a i b k _ p _ hp,Qa1 (s:=sideAt x a i) (t:=sideAt y b k) hp]
  unfold finV finC
  rw [sd_end x a i hi,sd_end y b k hk]
  congr 1
  have e1:((sideAt x a i).f2==(sideAt y b k).f2)=decide (x=y):=by
   show ((x:Int)==(y:Int))=_
   rw [Bool.eq_iff_iff,beq_iff_eq,decide_eq_true_iff];omega
  have e2:((sideAt x a i).f3+1==(sideAt y b k).f3)=decide (k=i+1):=by
   show (((i+1:Nat):Int)+1==((k+1:Nat):Int))=_
   rw [Bool.eq_iff_iff,beq_iff_eq,decide_eq_true_iff];omega
  rw [e1,e2]
  unfold fin1
  by_cases hxy:x=y
  ·have hab:=hs hxy
   subst hab
   have hik:i<k:=by rcases h with h|h<;>omega
   rw [decide_eq_true hxy,decide_eq_false (show ¬ i=k+1 by omega),Bool.false_and,Bool.and_false,Bool.or_false]
   by_cases hki:k=i+1
   ·subst hki;rfl
   ·rw [decide_eq_false hki,Bool.false_and,Bool.false_and]
  ·rw [decide_eq_false hxy,Bool.false_and,Bool.false_and,Bool.false_and];rfl
 ·rw [if_neg (by omega),if_neg (by omega),if_pos h0]
  exact beq_eq_false_iff_ne.2 (by omega)
def pairOk (m:List (List Pt)) (x i y k:Nat):Bool:=(decide (x=y)&&decide (i=k)) || commonV (m.getD x []) i (m.getD y []) k (decide (x=y))
def allOk (m:List (List Pt)):Bool:=(List.range' 0 m.length).all fun x=>(List.range' 0 m.length).all fun y=>(List.range' 0 ((m.getD x []).length - 1)).all fun i=>(List.range' 0 ((m.getD y []).length - 1)).all fun k=>pairOk m x i y k
theorem Qgc (n x:Nat):x∈List.range' 0 n↔x<n:=by rw [List.mem_range'_1];omega
theorem Qa6 (m:List (List Pt)):allOk m=true↔∀ x y i k,x<m.length→y<m.length→i+1<(m.getD x []).length→k+1<(m.getD y []).length→pairOk m x i y k=true:=by
 unfold allOk
 simp only [List.all_eq_true,Qgc]
 exact ⟨fun h x y i k hx hy hi hk=>h x hx y hy i (by omega) k (by omega),fun h x hx y hy i hi k hk=>h x y i k hx hy (by omega) (by omega)⟩
def okP (s t:Sd):Prop:=mayV s t=true
theorem Qcr:∀ L:List Sd,badV L=false↔L.Pairwise okP
 | []=>by simp [badV]
 | s :: t=>by
  unfold badV
  rw [Bool.or_eq_false_iff,List.pairwise_cons,Qcr t]
  have:t.any (fun x => !mayV s x)=false↔∀ x∈t,okP s x:=by
   rw [List.any_eq_false]
   constructor
   ·intro h x hx
    have:=h x hx
    unfold okP
    simpa using this
   ·intro h x hx
    have:=h x hx
    unfold okP at this
    simp [this]
  rw [this]
theorem Qff (x:Nat) (a:List Pt) (s:Sd):s∈sidesA x a↔∃ i,i+1<a.length∧s=sideAt x a i:=by
 unfold sidesA
 rw [List.mem_map]
 constructor
 ·rintro ⟨i,hi,rfl⟩
  rw [Qgc] at hi
  exact ⟨i,by omega,rfl⟩
 ·rintro ⟨i,hi,rfl⟩
  exact ⟨i,by rw [Qgc];omega,rfl⟩
theorem Qe1:∀ (m:List (List Pt)) (q:Nat) (s:Sd),s∈sidesV q m↔∃ x i,x<m.length∧i+1<(m.getD x []).length∧s=sideAt (q+x) (m.getD x []) i
 | [],q,s=>by simp [sidesV]
 | a :: m,q,s=>by
  rw [sidesV,List.mem_append,Qff,Qe1 m (q+1) s]
  constructor
  ·rintro (⟨i,hi,rfl⟩|⟨x,i,hx,hi,rfl⟩)
   ·exact ⟨0,i,by simp,hi,rfl⟩
   ·exact ⟨x+1,i,by simpa using hx,by simpa using hi,by rw [show q+1+x=q+(x+1) by omega];rfl⟩
  ·rintro ⟨x,i,hx,hi,rfl⟩
   cases x with
   | zero=>exact .inl ⟨i,hi,rfl⟩
   | succ x=>exact .inr ⟨x,i,by simpa using hx,by simpa using hi,by rw [show q+1+x=q+(x+1) by omega];rfl⟩
theorem pw_A (x:Nat) (a:List Pt):(sidesA x a).Pairwise okP↔∀ i k,i<k→k+1<a.length→okP (sideAt x a i) (sideAt x a k):=by
 unfold sidesA
 rw [List.pairwise_map,List.pairwise_iff_getElem]
 simp only [List.length_range',List.getElem_range',Nat.zero_add,Nat.one_mul]
 constructor
 ·intro h i k hik hk
  exact h i k (by omega) (by omega) hik
 ·intro h i k hi hk hik
  exact h i k hik (by omega)
theorem pw_V:∀ (m:List (List Pt)) (q:Nat),(sidesV q m).Pairwise okP↔∀ x i y k,x<m.length→y<m.length→i+1<(m.getD x []).length→k+1<(m.getD y []).length→lexLt x i y k→okP (sideAt (q+x) (m.getD x []) i) (sideAt (q+y) (m.getD y []) k)
 | [],q=>by simp [sidesV]
 | a :: m,q=>by
  rw [sidesV,List.pairwise_append,pw_A,pw_V m (q+1)]
  constructor
  ·rintro ⟨h1,h2,h3⟩ x i y k hx hy hi hk hl
   cases x with
   | zero =>
    cases y with
    | zero =>
     rcases hl with hl|hl
     ·omega
     ·exact h1 i k hl.2 hk
    | succ y=>exact h3 _ ((Qff q a _).2 ⟨i,hi,rfl⟩) _ ((Qe1 m (q+1) _).2 ⟨y,k,by simpa using hy,by simpa using hk,by rw [show q+1+y=q+(y+1) by omega];rfl⟩)
   | succ x =>
    cases y with
    | zero=>rcases hl with hl|hl<;>omega
    | succ y =>
     have:=h2 x i y k (by simpa using hx) (by simpa using hy) (by simpa using hi) (by simpa using hk) (by rcases hl with hl|hl<;>unfold lexLt<;>omega)
     rw [show q+1+x=q+(x+1) by omega,show q+1+y=q+(y+1) by omega] at this
     exact this
  ·intro h
   refine ⟨fun i k hik hk => ?_,fun x i y k hx hy hi hk hl => ?_,fun s hs t ht => ?_⟩
   ·exact h 0 i 0 k (by simp) (by simp) (show i+1<a.length by omega) (show k+1<a.length from hk) (.inr ⟨rfl,hik⟩)
   ·have:=h (x+1) i (y+1) k (by simpa using hx) (by simpa using hy) (by simpa using hi) (by simpa using hk) (by rcases hl with hl|hl<;>unfold lexLt<;>omega)
    rw [show q+1+x=q+(x+1) by omega,show q+1+y=q+(y+1) by omega]
    exact this
   ·obtain ⟨i,hi,rfl⟩:=(Qff q a s).1 hs
    obtain ⟨y,k,hy,hk,rfl⟩:=(Qe1 m (q+1) t).1 ht
    have:=h 0 i (y+1) k (by simp) (by simpa using hy) (show i+1<a.length from hi) (by simpa using hk) (.inl (by omega))
    rw [show q+1+y=q+(y+1) by omega]
    exact this
theorem Qf5 (m:List (List Pt)):badV (sidesV 0 m) = !allOk m:=by
 have h:badV (sidesV 0 m)=false↔allOk m=true:=by
  rw [Qcr,pw_V,Qa6]
  simp only [Nat.zero_add]
  constructor
  ·intro h x y i k hx hy hi hk
   unfold pairOk
   by_cases he:x=y∧i=k
   ·rw [decide_eq_true he.1,decide_eq_true he.2];rfl
   ·rw [Bool.or_eq_true]
    refine .inr ?_
    by_cases hl:lexLt x i y k
    ·have:=h x i y k hx hy hi hk hl
     unfold okP at this
     rw [Q6a _ _ x i y k hi hk hl (fun e=>by rw [e])] at this
     exact this
    ·have hl2:lexLt y k x i:=by unfold lexLt at hl ⊢;omega
     have:=h y k x i hy hx hk hi hl2
     unfold okP at this
     rw [Q6a _ _ y k x i hk hi hl2 (fun e=>by rw [e]),Q9s _ _ _ _ _ (fun e=>by rw [of_decide_eq_true e])] at this
     rw [show decide (x=y)=decide (y=x) by rw [decide_eq_decide];exact eq_comm]
     exact this
  ·intro h x i y k hx hy hi hk hl
   have:=h x y i k hx hy hi hk
   unfold pairOk at this
   unfold okP
   rw [Q6a _ _ x i y k hi hk hl (fun e=>by rw [e])]
   rw [Bool.or_eq_true] at this
   rcases this with this|this
   ·rw [Bool.and_eq_true,decide_eq_true_iff,decide_eq_true_iff] at this
    rcases hl with hl|hl<;>omega
   ·exact this
 cases hb:badV (sidesV 0 m) with
 | false=>rw [h.1 hb];rfl
 | true =>
  cases ha:allOk m with
  | false=>rfl
  | true=>rw [h.2 ha] at hb;cases hb
end Go.Proofs.Ytbonkedecfjmdaa.Pl
