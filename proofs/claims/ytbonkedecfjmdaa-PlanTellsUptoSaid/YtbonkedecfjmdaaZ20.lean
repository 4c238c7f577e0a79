/- geom.along walked. No condition. geom.Meet walked (printed by gen_kp.py). No condition. -/
import Derived.Test.YtbonkedecfjmdaaZ15
import Derived.Deep.RegionHeld3
import Derived.Test.YtbonkedecfjmdaaZ2

namespace Go.Proofs.Ytbonkedecfjmdaa.Pl
set_option linter.unusedVariables false
set_option linter.unusedSimpArgs false
open Go Go.RowKit Go.Proofs.Ytbonkedecfjmdaa.P Go.Proofs.Ytbonkedecfjmdaa.G Go.Proofs.Ytbonkedecfjmdaa.WL Go.Proofs.YtbonkedecfjmdaaW.PrintWords Go.Proofs.YtbonkedecfjmdaaW.PrintLast Go.Proofs.YtbonkedecfjmdaaW.PrintMore
theorem eqPt (d:Nat) (w:World) (x0 y0:Int) (x1 y1:Int) (x2 y2:Int) :
  (Op.equalIn (d+2) 27 (.agg #[.int .i64 x0,.int .i64 x1,.int .i64 x2]) (.agg #[.int .i64 y0,.int .i64 y1,.int .i64 y2])).run Try.prog w=.ok (x0==y0&&(x1==y1&&(x2==y2))) w:=by
 refine Qbz Try.underlying27 (by kernel_rfl) ?_
 refine Q5v (by rfl) (by go_simp;rfl) (by go_simp;rfl) (by go_simp) ?_
 refine Q5v (by rfl) (by go_simp;rfl) (by go_simp;rfl) (by go_simp) ?_
 exact Q7v (by rfl) (by go_simp;rfl) (by go_simp;rfl) (by go_simp)
attribute [local go_sem high] eqPt
theorem box4 (w:World) (a b c d:Pt):∃ W,W=(((w.alloc (ptO a)).alloc (ptO b)).alloc (ptO c)).alloc (ptO d)∧At W w.heap.size a∧At W (w.heap.size+1) b∧At W (w.heap.size+1+1) c∧At W (w.heap.size+1+1+1) d∧Below w.heap.size w W:=by
 obtain ⟨W,e,hs,h1,h2,h3,hB⟩:=box3 w a b c
 have h4:=At.new W d
 rw [hs] at h4
 refine ⟨_,rfl,?_⟩
 rw [← e]
 exact ⟨h1.old _,h2.old _,h3.old _,h4,hB.alloc (by omega) _⟩
abbrev put3 (w:World) (g:Nat) (x:Pt):World:=((w.setCell ⟨g,0,none⟩ (.int .i64 x.f0)).setCell ⟨g,1,none⟩ (.int .i64 x.f1)).setCell ⟨g,2,none⟩ (.int .i64 x.f2)
theorem At.put {w:World} {g:Nat} {p:Pt} (h:At w g p) (x:Pt):At (put3 w g x) g x:=Q5c (Q5c (Q5c h 0 _) 1 _) 2 _
theorem At.far {w:World} {g g6:Nat} {p:Pt} (h:At w g p) (hne:g≠g6) (x:Pt):At (put3 w g6 x) g p:=Q2f (Q2f (Q2f h hne _) hne _) hne _
theorem Q4c {w w':World} {g6:Nat} (h:Below w.heap.size w w') (hge:w.heap.size≤g6) (x:Pt):Below w.heap.size w (put3 w' g6 x):=Q2x (Q2x (Q2x h hge) hge) hge
theorem At.drew {w:World} {g:Nat} {a:Pt} (h:At w g a):At w.drew g a:=Q0d h
set_option maxHeartbeats 8000000 in
set_option maxRecDepth 100000 in
theorem Q9m {a b c d:Pt} (ha:rt a=true) (hb:rt b=true) (hc:rt c=true) (hd:rt d=true) (w:World):Calls Try.prog 87 #[ptA a,ptA b,ptA c,ptA d] w fun e w'=>e=.returned (.int .i64 (touch (max (min (key a) (key b)) (min (key c) (key d))) (min (max (key a) (key b)) (max (key c) (key d)))))∧Below w.heap.size w w':=by
 have hu27:=Try.underlying27
 obtain ⟨lo,hi,e1,r1,r2,k1,k2⟩:=Q8m ha hb
 obtain ⟨lo2,hi2,e2,s1,s2,k3,k4⟩:=Q8m hc hd
 rw [← k1,← k2,← k3,← k4]
 have hr1:=fun W=>Q38.calls _ _ _ _ _ _ _ _ _ _ _ _ W e1
 have hr2:=fun W=>Q38.calls _ _ _ _ _ _ _ _ _ _ _ _ W e2
 clear e1 e2 k1 k2 k3 k4 ha hb hc hd
 have HL:=Aside0.mk (fun (p q:Pt) (hp:rt p=true) (hq:rt q=true) (W:World)=>Q4b.calls _ _ _ _ _ _ _ W (Qcb hp hq))
 obtain ⟨W,hW,ga,gb,gc,gd,hB⟩:=box4 w a b c d
 go_enter Try.func87,Try.ntmps87
 go_upto_region 1 with (go_step3)
 rw [← hW]
 clear hW
 have a0:=ga.c0
 have a1:=ga.c1
 have a2:=ga.c2
 have b0:=gb.c0
 have b1:=gb.c1
 have b2:=gb.c2
 go_upto_region 2 with (first|(go_at_call 88;refine (hr1 _).mono ?_;rintro e w2 ⟨rfl,hb2⟩;have ga:=ga.below hb2;have gb:=gb.below hb2;have gc:=gc.below hb2;have gd:=gd.below hb2;have hB:=Q0j hB hb2;have a0:=ga.c0;have a1:=ga.c1;have a2:=ga.c2;have b0:=gb.c0;have b1:=gb.c1;have b2:=gb.c2;have f0:=Q0k ga 0;have f1:=Q0k ga 1;have f2:=Q0k ga 2;have f3:=Q0k gb 0;have f4:=Q0k gb 1;have f5:=Q0k gb 2)|go_step3)
 clear a0 a1 a2 b0 b1 b2 f0 f1 f2 f3 f4 f5
 obtain ⟨W2,hW2⟩:∃ W_,W_=(((((w2.setCell ⟨w.heap.size,0,none⟩ (.int .i64 lo.f0)).setCell ⟨w.heap.size,1,none⟩ (.int .i64 lo.f1)).setCell ⟨w.heap.size,2,none⟩ (.int .i64 lo.f2)).setCell ⟨(w.heap.size+1),0,none⟩ (.int .i64 hi.f0)).setCell ⟨(w.heap.size+1),1,none⟩ (.int .i64 hi.f1)).setCell ⟨(w.heap.size+1),2,none⟩ (.int .i64 hi.f2):=⟨_,rfl⟩
 rw [← hW2]
 have ga:At W2 w.heap.size lo:=by rw [hW2];exact (ga.put lo).far (show w.heap.size≠(w.heap.size+1) by omega) hi
 have gb:At W2 (w.heap.size+1) hi:=by rw [hW2];exact (gb.far (show (w.heap.size+1)≠w.heap.size by omega) lo).put hi
 have gc:At W2 (w.heap.size+1+1) c:=by rw [hW2];exact (gc.far (show (w.heap.size+1+1)≠w.heap.size by omega) lo).far (show (w.heap.size+1+1)≠(w.heap.size+1) by omega) hi
 have gd:At W2 (w.heap.size+1+1+1) d:=by rw [hW2];exact (gd.far (show (w.heap.size+1+1+1)≠w.heap.size by omega) lo).far (show (w.heap.size+1+1+1)≠(w.heap.size+1) by omega) hi
 have hB:Below w.heap.size w W2:=by rw [hW2];exact Q4c (Q4c hB (Nat.le_refl _) lo) (show w.heap.size≤(w.heap.size+1) by omega) hi
 clear hW2
 have a0:=gc.c0
 have a1:=gc.c1
 have a2:=gc.c2
 have b0:=gd.c0
 have b1:=gd.c1
 have b2:=gd.c2
 go_upto_region 3 with (first|(go_at_call 88;refine (hr2 _).mono ?_;rintro e w2 ⟨rfl,hb2⟩;have ga:=ga.below hb2;have gb:=gb.below hb2;have gc:=gc.below hb2;have gd:=gd.below hb2;have hB:=Q0j hB hb2;have a0:=gc.c0;have a1:=gc.c1;have a2:=gc.c2;have b0:=gd.c0;have b1:=gd.c1;have b2:=gd.c2;have f0:=Q0k gc 0;have f1:=Q0k gc 1;have f2:=Q0k gc 2;have f3:=Q0k gd 0;have f4:=Q0k gd 1;have f5:=Q0k gd 2)|go_step3)
 clear a0 a1 a2 b0 b1 b2 f0 f1 f2 f3 f4 f5
 obtain ⟨W4,hW4⟩:∃ W_,W_=(((((w2.setCell ⟨(w.heap.size+1+1),0,none⟩ (.int .i64 lo2.f0)).setCell ⟨(w.heap.size+1+1),1,none⟩ (.int .i64 lo2.f1)).setCell ⟨(w.heap.size+1+1),2,none⟩ (.int .i64 lo2.f2)).setCell ⟨(w.heap.size+1+1+1),0,none⟩ (.int .i64 hi2.f0)).setCell ⟨(w.heap.size+1+1+1),1,none⟩ (.int .i64 hi2.f1)).setCell ⟨(w.heap.size+1+1+1),2,none⟩ (.int .i64 hi2.f2):=⟨_,rfl⟩
 rw [← hW4]
 have ga:At W4 w.heap.size lo:=by rw [hW4];exact (ga.far (show w.heap.size≠(w.heap.size+1+1) by omega) lo2).far (show w.heap.size≠(w.heap.size+1+1+1) by omega) hi2
 have gb:At W4 (w.heap.size+1) hi:=by rw [hW4];exact (gb.far (show (w.heap.size+1)≠(w.heap.size+1+1) by omega) lo2).far (show (w.heap.size+1)≠(w.heap.size+1+1+1) by omega) hi2
 have gc:At W4 (w.heap.size+1+1) lo2:=by rw [hW4];exact (gc.put lo2).far (show (w.heap.size+1+1)≠(w.heap.size+1+1+1) by omega) hi2
 have gd:At W4 (w.heap.size+1+1+1) hi2:=by rw [hW4];exact (gd.far (show (w.heap.size+1+1+1)≠(w.heap.size+1+1) by omega) lo2).put hi2
 have hB:Below w.heap.size w W4:=by rw [hW4];exact Q4c (Q4c hB (show w.heap.size≤(w.heap.size+1+1) by omega) lo2) (show w.heap.size≤(w.heap.size+1+1+1) by omega) hi2
 clear hW4
 have a0:=ga.c0
 have a1:=ga.c1
 have a2:=ga.c2
 have b0:=gb.c0
 have b1:=gb.c1
 have b2:=gb.c2
 clear hr1 hr2
 have n0:=W4.new_ne ⟨w.heap.size,0,none⟩ a0
 have n1:=W4.new_ne ⟨(w.heap.size+1),0,none⟩ b0
 clear hb2
 go_region_held3 (fun w'=>(w'.cell? ⟨w.heap.size,0,none⟩=some (.int .i64 lo.f0)∧w'.cell? ⟨w.heap.size,1,none⟩=some (.int .i64 lo.f1)∧w'.cell? ⟨w.heap.size,2,none⟩=some (.int .i64 lo.f2))∧w'.cell? ⟨(w.heap.size+1),0,none⟩=some (.int .i64 hi.f0)∧w'.cell? ⟨(w.heap.size+1),1,none⟩=some (.int .i64 hi.f1)∧w'.cell? ⟨(w.heap.size+1),2,none⟩=some (.int .i64 hi.f2)) (go_keep) (fail)
 all_goals (clear a0 a1 a2 b0 b1 b2 n0 n1 ga gb;have hl4:=Q25 gd)
 obtain ⟨W5,hW5⟩:∃ W_,W_=((W4.alloc (ptO lo)).alloc (ptO hi)).drew:=⟨_,rfl⟩
 have h9:At W5 W4.heap.size lo:=by rw [hW5];exact ((At.new W4 lo).old _).drew
 have h10:At W5 (W4.heap.size+1) hi:=by rw [hW5];have:=At.new (W4.alloc (ptO lo)) hi;rw [show (W4.alloc (ptO lo)).heap.size=W4.heap.size+1 by simp] at this;exact this.drew
 have gc:At W5 (w.heap.size+1+1) lo2:=by rw [hW5];exact ((gc.old _).old _).drew
 have gd:At W5 (w.heap.size+1+1+1) hi2:=by rw [hW5];exact ((gd.old _).old _).drew
 have hB:Below w.heap.size w W5:=by rw [hW5];exact Q2k (Q14 (Q14 hB _) _)
 obtain ⟨g10,e10⟩:∃ g,g=W4.heap.size+1:=⟨_,rfl⟩
 obtain ⟨g9,e9⟩:∃ g,g=W4.heap.size:=⟨_,rfl⟩
 rw [← hW5]
 rw [← e10] at h10 ⊢
 rw [← e9] at h9 ⊢
 rotate_left
 obtain ⟨W5,hW5⟩:∃ W_,W_=((W4.alloc (ptO hi)).alloc (ptO lo)).drew:=⟨_,rfl⟩
 have h10:At W5 W4.heap.size hi:=by rw [hW5];exact ((At.new W4 hi).old _).drew
 have h9:At W5 (W4.heap.size+1) lo:=by rw [hW5];have:=At.new (W4.alloc (ptO hi)) lo;rw [show (W4.alloc (ptO hi)).heap.size=W4.heap.size+1 by simp] at this;exact this.drew
 have gc:At W5 (w.heap.size+1+1) lo2:=by rw [hW5];exact ((gc.old _).old _).drew
 have gd:At W5 (w.heap.size+1+1+1) hi2:=by rw [hW5];exact ((gd.old _).old _).drew
 have hB:Below w.heap.size w W5:=by rw [hW5];exact Q2k (Q14 (Q14 hB _) _)
 obtain ⟨g9,e9⟩:∃ g,g=W4.heap.size+1:=⟨_,rfl⟩
 obtain ⟨g10,e10⟩:∃ g,g=W4.heap.size:=⟨_,rfl⟩
 rw [← hW5]
 rw [← e9] at h9 ⊢
 rw [← e10] at h10 ⊢
 rotate_left
 all_goals
  have m1:g9≠g10:=by omega
  have m2:(w.heap.size+1+1)≠g9:=by omega
  have m3:(w.heap.size+1+1+1)≠g9:=by omega
  have m4:(w.heap.size+1+1)≠g10:=by omega
  have m5:(w.heap.size+1+1+1)≠g10:=by omega
  have m6:w.heap.size≤g9:=by omega
  have m7:w.heap.size≤g10:=by omega
  clear hW5 e9 e10 hl4
  have a0:=h9.c0
  have a1:=h9.c1
  have a2:=h9.c2
  have b0:=gc.c0
  have b1:=gc.c1
  have b2:=gc.c2
  have l1:=HL.out lo lo2 r1 s1
  have HQ:=Aside0.mk (@id (∀ b:Bool,decide (key lo<key lo2)=b→(b=true↔key lo<key lo2)) (fun b h=>by rw [← h];exact decide_eq_true_iff))
  generalize hq:decide (key lo<key lo2)=q at l1
  have HQ:=Aside0.mk (HQ.out q hq)
  clear hq
  go_upto_if 27 with (go_at_call 89;refine (l1 _).mono ?_;rintro e w6 ⟨rfl,hb6⟩)
  clear l1 a0 a1 a2 b0 b1 b2
  have h9:=h9.below hb6
  have h10:=h10.below hb6
  have gc:=gc.below hb6
  have gd:=gd.below hb6
  have hB:=Q0j hB hb6
  clear hb6
  go_cut [] (fun wr=>∃ L:Pt,rt L=true∧key L=max (key lo) (key lo2)∧At wr g9 L∧At wr g10 hi∧At wr (w.heap.size+1+1+1) hi2∧Below w.heap.size w wr)
  case first =>
   cases q with
   | true =>
    have a0:=h9.c0
    have a1:=h9.c1
    have a2:=h9.c2
    have b0:=gc.c0
    have b1:=gc.c1
    have b2:=gc.c2
    have f0:=Q0k h9 0
    have f1:=Q0k h9 1
    have f2:=Q0k h9 2
    go_wp2
    go_meet
    case rel=>exact ⟨lo2,s1,by have:=HQ.out.1 (by first|rfl|trivial);omega,h9.put lo2,h10.far (Ne.symm m1) lo2,gd.far m3 lo2,Q4c hB m6 lo2⟩
   | false =>
    go_wp2
    go_meet
    case rel=>exact ⟨lo,r1,by (have:¬ key lo<key lo2:=fun h=>by (have:=HQ.out.2 h;cases this));omega,h9,h10,gd,hB⟩
  case rest =>
   clear h9 h10 gc gd hB
   obtain ⟨L,hL,kL,h9,h10,gd,hB⟩:=hcut
   have KL:=Aside0.mk kL
   clear kL
   have a0:=h10.c0
   have a1:=h10.c1
   have a2:=h10.c2
   have b0:=gd.c0
   have b1:=gd.c1
   have b2:=gd.c2
   have l1:=HL.out hi2 hi s2 r2
   have HQ:=Aside0.mk (@id (∀ b:Bool,decide (key hi2<key hi)=b→(b=true↔key hi2<key hi)) (fun b h=>by rw [← h];exact decide_eq_true_iff))
   generalize hq:decide (key hi2<key hi)=q at l1
   have HQ:=Aside0.mk (HQ.out q hq)
   clear hq
   go_upto_if 31 with (go_at_call 89;refine (l1 _).mono ?_;rintro e w6 ⟨rfl,hb6⟩)
   clear l1 a0 a1 a2 b0 b1 b2
   have h9:=h9.below hb6
   have h10:=h10.below hb6
   have gd:=gd.below hb6
   have hB:=Q0j hB hb6
   clear hb6
   go_cut [] (fun wr=>∃ H:Pt,rt H=true∧key H=min (key hi) (key hi2)∧At wr g9 L∧At wr g10 H∧Below w.heap.size w wr)
   case first =>
    cases q with
    | true =>
     have a0:=h10.c0
     have a1:=h10.c1
     have a2:=h10.c2
     have b0:=gd.c0
     have b1:=gd.c1
     have b2:=gd.c2
     have f0:=Q0k h10 0
     have f1:=Q0k h10 1
     have f2:=Q0k h10 2
     go_wp2
     go_meet
     case rel=>exact ⟨hi2,s2,by have:=HQ.out.1 (by first|rfl|trivial);omega,h9.far m1 hi2,h10.put hi2,Q4c hB m7 hi2⟩
    | false =>
     go_wp2
     go_meet
     case rel=>exact ⟨hi,r2,by (have:¬ key hi2<key hi:=fun h=>by (have:=HQ.out.2 h;cases this));omega,h9,h10,hB⟩
   case rest =>
    clear h9 h10 gd hB
    obtain ⟨H,hH,kH,h9,h10,hB⟩:=hcut
    have HT:=Aside0.mk (show touch (max (key lo) (key lo2)) (min (key hi) (key hi2))=if key L=key H then 1 else if key L<key H then 3 else 0 by unfold touch;rw [← KL.out,← kH])
    clear kH
    have a0:=h9.c0
    have a1:=h9.c1
    have a2:=h9.c2
    have b0:=h10.c0
    have b1:=h10.c1
    have b2:=h10.c2
    have l1:=HL.out L H hL hH
    by_cases hk:key L=key H
    ·obtain rfl:=key_inj hL hH hk
     have HR:=Aside0.mk (show touch (max (key lo) (key lo2)) (min (key hi) (key hi2))=1 from by rw [HT.out,if_pos rfl])
     clear hk l1
     go_wp2
     (try rw [Exit.noGoto_ret])
     go_ret
     exact ⟨by rw [HR.out];rfl,hB⟩
    ·have hf:(L.f0==H.f0&&(L.f1==H.f1&&L.f2==H.f2))=false:=by
      cases hf:(L.f0==H.f0&&(L.f1==H.f1&&L.f2==H.f2)) with
      | false=>rfl
      | true =>
       exfalso
       apply hk
       simp only [Bool.and_eq_true,beq_iff_eq] at hf
       unfold key
       rw [hf.1,hf.2.1]
     by_cases hk2:key L<key H
     ·rw [decide_eq_true hk2] at l1
      have HR:=Aside0.mk (show touch (max (key lo) (key lo2)) (min (key hi) (key hi2))=3 from by rw [HT.out,if_neg hk,if_pos hk2])
      clear hk hk2
      go_wp2_with (go_at_call 89;refine (l1 _).mono ?_;rintro e w6 ⟨rfl,hb6⟩)
      (try rw [Exit.noGoto_ret])
      go_ret
      exact ⟨by rw [HR.out];rfl,Q0j hB hb6⟩
     ·rw [decide_eq_false hk2] at l1
      have HR:=Aside0.mk (show touch (max (key lo) (key lo2)) (min (key hi) (key hi2))=0 from by rw [HT.out,if_neg hk,if_neg hk2])
      clear hk hk2
      go_wp2_with (go_at_call 89;refine (l1 _).mono ?_;rintro e w6 ⟨rfl,hb6⟩)
      (try rw [Exit.noGoto_ret])
      go_ret
      exact ⟨by rw [HR.out];rfl,Q0j hB hb6⟩
end Go.Proofs.Ytbonkedecfjmdaa.Pl

namespace Go.Proofs.Ytbonkedecfjmdaa.Pl
set_option linter.unusedVariables false
set_option linter.unusedSimpArgs false
open Go Go.RowKit Go.Proofs.Ytbonkedecfjmdaa.X Go.Proofs.Ytbonkedecfjmdaa.P Go.Proofs.Ytbonkedecfjmdaa.G Go.Proofs.Ytbonkedecfjmdaa.WL Go.Proofs.YtbonkedecfjmdaaW.PrintWords Go.Proofs.YtbonkedecfjmdaaW.PrintLast Go.Proofs.YtbonkedecfjmdaaW.PrintMore
theorem Qav {a b c d:Pt} (ha:rt a=true) (hb:rt b=true) (hc:rt c=true) (hd:rt d=true) (hc':crs a b c d):meetM a b c d=2:=by
 have g1:=hc'.1
 have g2:=hc'.2
 have n1:¬ one_ a b c d:=fun h=>by
  rcases (Qcq ha hb hc hd).1 h with h|h|h|h
  ·have:side c d a=0:=side0.2 (Q4m.1 h).2.2.2.1
   rw [this] at g2;omega
  ·have:side c d b=0:=side0.2 (Q4m.1 h).2.2.2.1
   rw [this] at g2;omega
  ·have:side a b c=0:=side0.2 (Q4m.1 h).2.2.2.1
   rw [this] at g1;omega
  ·have:side a b d=0:=side0.2 (Q4m.1 h).2.2.2.1
   rw [this] at g1;omega
 have n2:¬ two_ a b c d:=fun ⟨x,y,hx,_,bx,_⟩=>n1 ⟨x,hx,bx⟩
 unfold meetM crsV
 rw [if_neg n2,if_neg n1,if_pos hc']
theorem Qbp {a b c d:Pt} (ha:rt a=true) (hb:rt b=true) (hc:rt c=true) (hd:rt d=true) (hz:¬ (side a b c=0∧side a b d=0∧side c d a=0∧side c d b=0)) (hn:¬ crs a b c d):meetM a b c d=if (onB a c d || (onB b c d || (onB c a b || onB d a b)))=true then 1 else 0:=by
 have t2:¬ two_ a b c d:=fun h=>hz ⟨side0.2 (Q6j h).1,side0.2 (Q6j h).2.1,side0.2 (Q6j h).2.2.1,side0.2 (Q6j h).2.2.2⟩
 have o:=Qcq ha hb hc hd
 unfold meetM crsV
 rw [if_neg t2,if_neg hn]
 by_cases h:one_ a b c d
 ·rw [if_pos h,if_pos]
  have:=o.1 h
  simpa [Bool.or_eq_true] using this
 ·rw [if_neg h,if_neg]
  intro h2
  apply h
  apply o.2
  simpa [Bool.or_eq_true] using h2
theorem hold4 {w':World} {g1 g2 g3 g4:Nat} {a b c d:Pt} (h1:At w' g1 a) (h2:At w' g2 b) (h3:At w' g3 c) (h4:At w' g4 d):w'.cell? ⟨g1,0,none⟩=some (.int .i64 a.f0)∧w'.cell? ⟨g1,1,none⟩=some (.int .i64 a.f1)∧w'.cell? ⟨g1,2,none⟩=some (.int .i64 a.f2)∧w'.cell? ⟨g2,0,none⟩=some (.int .i64 b.f0)∧w'.cell? ⟨g2,1,none⟩=some (.int .i64 b.f1)∧w'.cell? ⟨g2,2,none⟩=some (.int .i64 b.f2)∧w'.cell? ⟨g3,0,none⟩=some (.int .i64 c.f0)∧w'.cell? ⟨g3,1,none⟩=some (.int .i64 c.f1)∧w'.cell? ⟨g3,2,none⟩=some (.int .i64 c.f2)∧w'.cell? ⟨g4,0,none⟩=some (.int .i64 d.f0)∧w'.cell? ⟨g4,1,none⟩=some (.int .i64 d.f1)∧w'.cell? ⟨g4,2,none⟩=some (.int .i64 d.f2):=⟨h1.c0,h1.c1,h1.c2,h2.c0,h2.c1,h2.c2,h3.c0,h3.c1,h3.c2,h4.c0,h4.c1,h4.c2⟩
theorem lit4 {ops:Array Oper} {rest:List Oper} {o:Oper} {a:Act} {Q:Exit→Act→World→Prop} {W:World} (hgd:o.guard=none) {N:Tmp} (hd:o.dst=some N) (p q r s:Pt)
  (hrun:(execOp a.eval o).run Try.prog W=.ok (.value (.slice (some ⟨W.heap.size,0,none⟩) 4 4)) (W.alloc (.cells #[.int .i64 p.f0,.int .i64 p.f1,.int .i64 p.f2,.int .i64 q.f0,.int .i64 q.f1,.int .i64 q.f2,.int .i64 r.f0,.int .i64 r.f1,.int .i64 r.f2,.int .i64 s.f0,.int .i64 s.f1,.int .i64 s.f2] 27)))
  (h:∀ w1,Kd.C k27 w1 (some ⟨W.heap.size,0,none⟩) 4 [p,q,r,s]→Below W.heap.size W w1→wpList Try.prog ops Q rest (a.put o.dst (.slice (some ⟨W.heap.size,0,none⟩) 4 4)) w1):wpList Try.prog ops Q (o :: rest) a W:=by
 refine Kd.Q4t hgd hrun (h _ ?_ ((Below.refl _ W).alloc (Nat.le_refl _) _))
 have hg:=heap_alloc_new W (.cells #[.int .i64 p.f0,.int .i64 p.f1,.int .i64 p.f2,.int .i64 q.f0,.int .i64 q.f1,.int .i64 q.f2,.int .i64 r.f0,.int .i64 r.f1,.int .i64 r.f2,.int .i64 s.f0,.int .i64 s.f1,.int .i64 s.f2] 27)
 generalize W.alloc _=W1 at hg ⊢
 refine ⟨rfl,by simp,fun _=>⟨⟨W.heap.size,0,none⟩,rfl,fun j x hx => ?_⟩⟩
 have c:=fun i=>cell_of_row W1 W.heap.size i _ _ _ hg
 have ad:∀ i:Nat,(Addr.add ⟨W.heap.size,0,none⟩ i)=⟨W.heap.size,i,none⟩:=fun i=>by rw [Addr.add_mid];simp
 have hk:∀ x:Pt,k27.K W1 x [.int .i64 x.f0,.int .i64 x.f1,.int .i64 x.f2]:=fun x=>⟨_,_,rfl,rfl,⟨_,_,rfl,rfl,rfl⟩⟩
 have hj:j<4:=by
  rcases Nat.lt_or_ge j 4 with h|h
  ·exact h
  ·rw [List.getElem?_eq_none (by simpa using h)] at hx;cases hx
 refine ⟨_,rfl,hk x,fun i u hu => ?_⟩
 have hi:i<3:=by
  rcases Nat.lt_or_ge i 3 with h|h
  ·exact h
  ·rw [List.getElem?_eq_none (by simpa using h)] at hu;cases hu
 rw [show j*k27.sz+i=j*3+i from rfl,ad,c]
 rcases j with _|_|_|_|j<;>rcases i with _|_|_|i<;>first|omega|(simp at hx hu;subst hx;subst hu;rfl)
theorem Q5j {a b c:Pt} (ha:rt a=true) (hb:rt b=true) (hc:rt c=true) (W:World):Calls Try.prog 60 #[ptA a,ptA b,ptA c] W fun e w'=>e=.returned (.int .i64 (side a b c))∧Below W.heap.size W w':=by
 obtain ⟨K2,hK2⟩:=Q6l ha hb hc
 exact Q2w.calls K2 _ _ _ _ _ _ _ _ _ _ W (hK2 K2 (Nat.le_refl _))
def meetT3:Bool×List (List Nat×List Nat):=(true,[([],[]),([],[]),([],[]),([0,1,2],[0,1,2]),([],[]),([],[]),([],[]),([4,5,6,3],[4,5,6]),([3,7,0,1,2,3],[3]),([7,8,0,1,2,3,4,5,6,7,8],[7])])
def meetB3:List Nat:=[0,0,0,7,0,0,0,127,255,511]
theorem meetTab3:rtab .any (opsOf Try.f83 3)=meetT3:=by kernel_rfl
theorem meetBits3:waitsOk meetT3.2 meetB3=true:=by kernel_rfl
theorem meetTab4:rtab .any (opsOf Try.f83 4)=meetT3:=by kernel_rfl
theorem meetBits4:waitsOk meetT3.2 meetB3=true:=by kernel_rfl
set_option maxHeartbeats 16000000 in
set_option maxRecDepth 100000 in
theorem Qan (a b c d:Pt) (w:World):Calls Try.prog 83 #[ptA a,ptA b,ptA c,ptA d] w fun e w'=>e=.returned (.int .i64 (meetV a b c d))∧Below w.heap.size w w':=by
 have hu27:=Try.underlying27
 obtain ⟨K,hK⟩:=Q4w [a,b,c,d] (by simp)
 have hright:∀ W A,Kd.C k27 W A 4 [a,b,c,d]→Calls Try.prog 32 #[.slice A 4 4] W fun e w'=>e=.returned (.bool (rt a&&(rt b&&(rt c&&rt d))))∧Below W.heap.size W w':=fun W A hC=>by
  have:=Q04.calls K A 4 [a,b,c,d] _ W hC (Nat.le_refl _) (hK K (Nat.le_refl _))
  rw [show [a,b,c,d].all rt=(rt a&&(rt b&&(rt c&&rt d))) by simp] at this
  exact this
 have HMV:=AM (show meetV a b c d=if (rt a&&(rt b&&(rt c&&rt d)))=true then meetM a b c d else 0 by unfold meetV;rfl)
 obtain ⟨W,hW,ga,gb,gc,gd,hB⟩:=box4 w a b c d
 clear hK
 generalize meetV a b c d=R at *
 go_enter Try.func83,Try.ntmps83
 go_upto_region 1 with (go_step3)
 rw [← hW]
 clear hW
 by_cases h:(rt a&&(rt b&&(rt c&&rt d)))=true
 ·rw [h] at hright
  have HR:=AM (show R=meetM a b c d by rw [HMV.out,if_pos h])
  simp only [Bool.and_eq_true] at h
  obtain ⟨ha,hb,hc,hd⟩:=h
  have T1:=Q5j ha hb hc
  have T2:=Q5j ha hb hd
  have T3:=Q5j hc hd ha
  have T4:=Q5j hc hd hb
  have O1:=fun W=>Q41 a c d W
  have O2:=fun W=>Q41 b c d W
  have O3:=fun W=>Q41 c a b W
  have O4:=fun W=>Q41 d a b W
  have hal:=fun W=>Q9m ha hb hc hd W
  have HZ:=AM (show side a b c=0→side a b d=0→side c d a=0→side c d b=0→R=touch (max (min (key a) (key b)) (min (key c) (key d))) (min (max (key a) (key b)) (max (key c) (key d))) from fun z1 z2 z3 z4=>by rw [HR.out,← Qcc ha hb hc hd (side0.1 z1) (side0.1 z2) (side0.1 z3) (side0.1 z4)])
  have HX:=AM (show ¬ (side a b c=0∧side a b d=0∧side c d a=0∧side c d b=0)→side a b c*side a b d<0→side c d a*side c d b<0→R=2 from fun _ g1 g2=>by rw [HR.out,Qav ha hb hc hd ⟨g1,g2⟩])
  have HN:=AM (show ¬ (side a b c=0∧side a b d=0∧side c d a=0∧side c d b=0)→¬ (side a b c*side a b d<0∧side c d a*side c d b<0)→R=if (onB a c d || (onB b c d || (onB c a b || onB d a b)))=true then 1 else 0 from fun hz hn=>by rw [HR.out,Qbp ha hb hc hd hz hn])
  have r1:=Q6h a b c a b d
  have r2:=Q6h c d a c d b
  clear HMV HR ha hb hc hd
  generalize touch (max (min (key a) (key b)) (min (key c) (key d))) (min (max (key a) (key b)) (max (key c) (key d)))=z at *
  generalize side a b c=p at *
  generalize side a b d=q at *
  generalize side c d a=r at *
  generalize side c d b=s at *
  generalize onB a c d=o1 at *
  generalize onB b c d=o2 at *
  generalize onB c a b=o3 at *
  generalize onB d a b=o4 at *
  have R1:=AM r1
  have R2:=AM r2
  clear r1 r2
  have a0:=ga.c0
  have a1:=ga.c1
  have a2:=ga.c2
  have b0:=gb.c0
  have b1:=gb.c1
  have b2:=gb.c2
  have c0:=gc.c0
  have c1:=gc.c1
  have c2:=gc.c2
  have d0:=gd.c0
  have d1:=gd.c1
  have d2:=gd.c2
  go_upto_region 3 with (first|((with_reducible refine Q0i (N:=17) rfl ?_);refine lit4 ?hg (N:=17) ?hd a b c d ?hr ?_;(case hd=>rfl);(case hg=>rfl);(case hr=>first|(go_simp;done)|(go_simp;rfl));intro w3 hC hb3;have hrr:=hright _ _ hC;have ga:=ga.below hb3;have gb:=gb.below hb3;have gc:=gc.below hb3;have gd:=gd.below hb3;have hB:=Q0j hB hb3)|(go_at_call 32;refine hrr.mono ?_;rintro e w4 ⟨rfl,hb4⟩;have ga:=ga.below hb4;have gb:=gb.below hb4;have gc:=gc.below hb4;have gd:=gd.below hb4;have hB:=Q0j hB hb4)|go_step3)
  clear a0 a1 a2 b0 b1 b2 c0 c1 c2 d0 d1 d2;clear hrr hC hright hb3 hb4
  have ga:=ga.drew
  have gb:=gb.drew
  have gc:=gc.drew
  have gd:=gd.drew
  have hB:=Q2k hB
  refine start_ (n:=10) (S:=fun w'=>w'.cell? ⟨w.heap.size,0,none⟩=some (.int .i64 a.f0)∧w'.cell? ⟨w.heap.size,1,none⟩=some (.int .i64 a.f1)∧w'.cell? ⟨w.heap.size,2,none⟩=some (.int .i64 a.f2)∧w'.cell? ⟨w.heap.size+1,0,none⟩=some (.int .i64 b.f0)∧w'.cell? ⟨w.heap.size+1,1,none⟩=some (.int .i64 b.f1)∧w'.cell? ⟨w.heap.size+1,2,none⟩=some (.int .i64 b.f2)∧w'.cell? ⟨w.heap.size+1+1,0,none⟩=some (.int .i64 c.f0)∧w'.cell? ⟨w.heap.size+1+1,1,none⟩=some (.int .i64 c.f1)∧w'.cell? ⟨w.heap.size+1+1,2,none⟩=some (.int .i64 c.f2)∧w'.cell? ⟨w.heap.size+1+1+1,0,none⟩=some (.int .i64 d.f0)∧w'.cell? ⟨w.heap.size+1+1+1,1,none⟩=some (.int .i64 d.f1)∧w'.cell? ⟨w.heap.size+1+1+1,2,none⟩=some (.int .i64 d.f2)) (ds:=[]) #[false,false,false,false,false,false,false,false,false,false] (by kernel_rfl) (by rfl) (by rfl) (by exact hold4 ga gb gc gd) (fun hHeld => ?_);refine Q1m meetTab3 meetBits3 (fun HT_ HW_ => ?_)
  generalize World.drew _=W3 at ga gb gc gd hB hHeld ⊢
  refine tQ 0 (some 20) HT_ HW_ hHeld ?_;refine tQ 1 (some 21) HT_ HW_ hHeld ?_;refine tQ 2 (some 22) HT_ HW_ hHeld ?_;refine tQ 4 (some 24) HT_ HW_ hHeld ?_;refine tQ 5 (some 25) HT_ HW_ hHeld ?_;refine tQ 6 (some 26) HT_ HW_ hHeld ?_
  refine oQ 3 (some 23) HT_ rfl fun K hK => ?_
  refine goes_ Try.func60 (by kernel_rfl) rfl #[.agg #[.int .i64 a.f0,.int .i64 a.f1,.int .i64 a.f2],.agg #[.int .i64 b.f0,.int .i64 b.f1,.int .i64 b.f2],.agg #[.int .i64 c.f0,.int .i64 c.f1,.int .i64 c.f2]] (by rfl) rfl rfl (by (try simp only [List.map_toArray,List.map_cons,List.map_nil]);first|done|rfl) ?_
  refine (T1 _).mono ?_
  rintro e w7 ⟨rfl,hb⟩
  refine ⟨_,rfl,?_⟩
  have ga:=ga.below hb
  have gb:=gb.below hb
  have gc:=gc.below hb
  have gd:=gd.below hb
  have hB:=Q0j hB hb
  refine hK.out _ _ (by exact hold4 ga gb gc gd) (fun hHeld => ?_)
  clear hK K hb;refine nP (some 23) ?_
  refine oQ 7 (some 27) HT_ rfl fun K hK => ?_
  refine goes_ Try.func60 (by kernel_rfl) rfl #[.agg #[.int .i64 a.f0,.int .i64 a.f1,.int .i64 a.f2],.agg #[.int .i64 b.f0,.int .i64 b.f1,.int .i64 b.f2],.agg #[.int .i64 d.f0,.int .i64 d.f1,.int .i64 d.f2]] (by rfl) rfl rfl (by (try simp only [List.map_toArray,List.map_cons,List.map_nil]);first|done|rfl) ?_
  refine (T2 _).mono ?_
  rintro e w7 ⟨rfl,hb⟩
  refine ⟨_,rfl,?_⟩
  have ga:=ga.below hb
  have gb:=gb.below hb
  have gc:=gc.below hb
  have gd:=gd.below hb
  have hB:=Q0j hB hb
  refine hK.out _ _ (by exact hold4 ga gb gc gd) (fun hHeld => ?_)
  clear hK K hb;refine nP (some 27) ?_;refine pQ 8 (some 9) HT_ ?_;refine pQ 9 (some 10) HT_ ?_
  refine done_ (Q2d HT_.out (by kernel_rfl)) ?_
  clear hHeld HT_ HW_
  go_upto_region 4 with (fail)
  have ga:=ga.drew
  have gb:=gb.drew
  have gc:=gc.drew
  have gd:=gd.drew
  have hB:=Q2k hB
  refine start_ (n:=10) (S:=fun w'=>w'.cell? ⟨w.heap.size,0,none⟩=some (.int .i64 a.f0)∧w'.cell? ⟨w.heap.size,1,none⟩=some (.int .i64 a.f1)∧w'.cell? ⟨w.heap.size,2,none⟩=some (.int .i64 a.f2)∧w'.cell? ⟨w.heap.size+1,0,none⟩=some (.int .i64 b.f0)∧w'.cell? ⟨w.heap.size+1,1,none⟩=some (.int .i64 b.f1)∧w'.cell? ⟨w.heap.size+1,2,none⟩=some (.int .i64 b.f2)∧w'.cell? ⟨w.heap.size+1+1,0,none⟩=some (.int .i64 c.f0)∧w'.cell? ⟨w.heap.size+1+1,1,none⟩=some (.int .i64 c.f1)∧w'.cell? ⟨w.heap.size+1+1,2,none⟩=some (.int .i64 c.f2)∧w'.cell? ⟨w.heap.size+1+1+1,0,none⟩=some (.int .i64 d.f0)∧w'.cell? ⟨w.heap.size+1+1+1,1,none⟩=some (.int .i64 d.f1)∧w'.cell? ⟨w.heap.size+1+1+1,2,none⟩=some (.int .i64 d.f2)) (ds:=[]) #[false,false,false,false,false,false,false,false,false,false] (by kernel_rfl) (by rfl) (by rfl) (by exact hold4 ga gb gc gd) (fun hHeld => ?_);refine Q1m meetTab4 meetBits4 (fun HT_ HW_ => ?_)
  generalize World.drew _=W4 at ga gb gc gd hB hHeld ⊢
  refine tQ 0 (some 28) HT_ HW_ hHeld ?_;refine tQ 1 (some 29) HT_ HW_ hHeld ?_;refine tQ 2 (some 30) HT_ HW_ hHeld ?_;refine tQ 4 (some 32) HT_ HW_ hHeld ?_;refine tQ 5 (some 33) HT_ HW_ hHeld ?_;refine tQ 6 (some 34) HT_ HW_ hHeld ?_
  refine oQ 3 (some 31) HT_ rfl fun K hK => ?_
  refine goes_ Try.func60 (by kernel_rfl) rfl #[.agg #[.int .i64 c.f0,.int .i64 c.f1,.int .i64 c.f2],.agg #[.int .i64 d.f0,.int .i64 d.f1,.int .i64 d.f2],.agg #[.int .i64 a.f0,.int .i64 a.f1,.int .i64 a.f2]] (by rfl) rfl rfl (by (try simp only [List.map_toArray,List.map_cons,List.map_nil]);first|done|rfl) ?_
  refine (T3 _).mono ?_
  rintro e w7 ⟨rfl,hb⟩
  refine ⟨_,rfl,?_⟩
  have ga:=ga.below hb
  have gb:=gb.below hb
  have gc:=gc.below hb
  have gd:=gd.below hb
  have hB:=Q0j hB hb
  refine hK.out _ _ (by exact hold4 ga gb gc gd) (fun hHeld => ?_)
  clear hK K hb;refine nP (some 31) ?_
  refine oQ 7 (some 35) HT_ rfl fun K hK => ?_
  refine goes_ Try.func60 (by kernel_rfl) rfl #[.agg #[.int .i64 c.f0,.int .i64 c.f1,.int .i64 c.f2],.agg #[.int .i64 d.f0,.int .i64 d.f1,.int .i64 d.f2],.agg #[.int .i64 b.f0,.int .i64 b.f1,.int .i64 b.f2]] (by rfl) rfl rfl (by (try simp only [List.map_toArray,List.map_cons,List.map_nil]);first|done|rfl) ?_
  refine (T4 _).mono ?_
  rintro e w7 ⟨rfl,hb⟩
  refine ⟨_,rfl,?_⟩
  have ga:=ga.below hb
  have gb:=gb.below hb
  have gc:=gc.below hb
  have gd:=gd.below hb
  have hB:=Q0j hB hb
  refine hK.out _ _ (by exact hold4 ga gb gc gd) (fun hHeld => ?_)
  clear hK K hb;refine nP (some 35) ?_;refine pQ 8 (some 11) HT_ ?_;refine pQ 9 (some 12) HT_ ?_
  refine done_ (Q2d HT_.out (by kernel_rfl)) ?_
  clear hHeld HT_ HW_
  go_upto_region 5 with (fail)
  have a0:=ga.c0
  have a1:=ga.c1
  have a2:=ga.c2
  have b0:=gb.c0
  have b1:=gb.c1
  have b2:=gb.c2
  have c0:=gc.c0
  have c1:=gc.c1
  have c2:=gc.c2
  have d0:=gd.c0
  have d1:=gd.c1
  have d2:=gd.c2
  by_cases hz:p=0∧q=0∧r=0∧s=0
  ·obtain ⟨rfl,rfl,rfl,rfl⟩:=hz
   have HRF:=AM (HZ.out rfl rfl rfl rfl)
   clear HZ HX HN R1 R2
   go_wp2_with (first|(go_at_call 87;refine (hal _).mono ?_;rintro e w8 ⟨rfl,hb8⟩)|go_step3)
   go_ret
   exact ⟨by rw [HRF.out];rfl,Q0j hB hb8⟩
  ·have HX2:=AM (HX.out hz)
   have HN2:=AM (HN.out hz)
   have HF:(p==0)=false∨(p==0)=true∧(q==0)=false∨(p==0)=true∧(q==0)=true∧(r==0)=false∨(p==0)=true∧(q==0)=true∧(r==0)=true∧(s==0)=false:=by
    simp only [beq_eq_false_iff_ne,beq_iff_eq,ne_eq]
    omega
   clear HZ HX HN hz hal T1 T2 T3 T4
   by_cases g1:p*q<0
   ·by_cases g2:r*s<0
    ·have HRF:=AM (HX2.out g1 g2)
     have e1:wrap64 (p*q)=p*q:=R1.out
     have e2:wrap64 (r*s)=r*s:=R2.out
     have e3:decide (p*q<0)=true:=decide_eq_true g1
     have e4:decide (r*s<0)=true:=decide_eq_true g2
     clear HX2 HN2 R1 R2
     rcases HF with h|⟨h,h'⟩|⟨h,h',h''⟩|⟨h,h',h'',h4⟩<;>(
      go_wp2_with (go_step3)
      go_ret
      exact ⟨by rw [HRF.out];rfl,hB⟩)
    ·have HRF:=AM (HN2.out (fun h=>g2 h.2))
     have e1:wrap64 (p*q)=p*q:=R1.out
     have e2:wrap64 (r*s)=r*s:=R2.out
     have e3:decide (p*q<0)=true:=decide_eq_true g1
     have e4:decide (r*s<0)=false:=decide_eq_false g2
     clear HX2 HN2 R1 R2
     rcases HF with h|⟨h,h'⟩|⟨h,h',h''⟩|⟨h,h',h'',h4⟩<;>(
      go_upto_region 9 with (go_step3)
      cases o1
      rotate_left
      ·go_wp2_with (first|(go_at_call 59;(with_reducible first|refine (O1 _).mono ?_|refine (O2 _).mono ?_|refine (O3 _).mono ?_|refine (O4 _).mono ?_);rintro e w8 ⟨rfl,hb8⟩;have ga:=ga.below hb8;have gb:=gb.below hb8;have gc:=gc.below hb8;have gd:=gd.below hb8;have hB:=Q0j hB hb8;clear hb8;have a0:=ga.c0;have a1:=ga.c1;have a2:=ga.c2;have b0:=gb.c0;have b1:=gb.c1;have b2:=gb.c2;have c0:=gc.c0;have c1:=gc.c1;have c2:=gc.c2;have d0:=gd.c0;have d1:=gd.c1;have d2:=gd.c2)|go_step3)
       go_ret
       exact ⟨by rw [HRF.out];rfl,hB⟩
      cases o2
      rotate_left
      ·go_wp2_with (first|(go_at_call 59;(with_reducible first|refine (O1 _).mono ?_|refine (O2 _).mono ?_|refine (O3 _).mono ?_|refine (O4 _).mono ?_);rintro e w8 ⟨rfl,hb8⟩;have ga:=ga.below hb8;have gb:=gb.below hb8;have gc:=gc.below hb8;have gd:=gd.below hb8;have hB:=Q0j hB hb8;clear hb8;have a0:=ga.c0;have a1:=ga.c1;have a2:=ga.c2;have b0:=gb.c0;have b1:=gb.c1;have b2:=gb.c2;have c0:=gc.c0;have c1:=gc.c1;have c2:=gc.c2;have d0:=gd.c0;have d1:=gd.c1;have d2:=gd.c2)|go_step3)
       go_ret
       exact ⟨by rw [HRF.out];rfl,hB⟩
      cases o3
      rotate_left
      ·go_wp2_with (first|(go_at_call 59;(with_reducible first|refine (O1 _).mono ?_|refine (O2 _).mono ?_|refine (O3 _).mono ?_|refine (O4 _).mono ?_);rintro e w8 ⟨rfl,hb8⟩;have ga:=ga.below hb8;have gb:=gb.below hb8;have gc:=gc.below hb8;have gd:=gd.below hb8;have hB:=Q0j hB hb8;clear hb8;have a0:=ga.c0;have a1:=ga.c1;have a2:=ga.c2;have b0:=gb.c0;have b1:=gb.c1;have b2:=gb.c2;have c0:=gc.c0;have c1:=gc.c1;have c2:=gc.c2;have d0:=gd.c0;have d1:=gd.c1;have d2:=gd.c2)|go_step3)
       go_ret
       exact ⟨by rw [HRF.out];rfl,hB⟩
      cases o4
      rotate_left
      ·go_wp2_with (first|(go_at_call 59;(with_reducible first|refine (O1 _).mono ?_|refine (O2 _).mono ?_|refine (O3 _).mono ?_|refine (O4 _).mono ?_);rintro e w8 ⟨rfl,hb8⟩;have ga:=ga.below hb8;have gb:=gb.below hb8;have gc:=gc.below hb8;have gd:=gd.below hb8;have hB:=Q0j hB hb8;clear hb8;have a0:=ga.c0;have a1:=ga.c1;have a2:=ga.c2;have b0:=gb.c0;have b1:=gb.c1;have b2:=gb.c2;have c0:=gc.c0;have c1:=gc.c1;have c2:=gc.c2;have d0:=gd.c0;have d1:=gd.c1;have d2:=gd.c2)|go_step3)
       go_ret
       exact ⟨by rw [HRF.out];rfl,hB⟩
      go_wp2_with (first|(go_at_call 59;(with_reducible first|refine (O1 _).mono ?_|refine (O2 _).mono ?_|refine (O3 _).mono ?_|refine (O4 _).mono ?_);rintro e w8 ⟨rfl,hb8⟩;have ga:=ga.below hb8;have gb:=gb.below hb8;have gc:=gc.below hb8;have gd:=gd.below hb8;have hB:=Q0j hB hb8;clear hb8;have a0:=ga.c0;have a1:=ga.c1;have a2:=ga.c2;have b0:=gb.c0;have b1:=gb.c1;have b2:=gb.c2;have c0:=gc.c0;have c1:=gc.c1;have c2:=gc.c2;have d0:=gd.c0;have d1:=gd.c1;have d2:=gd.c2)|go_step3)
      go_ret
      exact ⟨by rw [HRF.out];rfl,hB⟩)
   ·have HRF:=AM (HN2.out (fun h=>g1 h.1))
    have e1:wrap64 (p*q)=p*q:=R1.out
    have e3:decide (p*q<0)=false:=decide_eq_false g1
    clear HX2 HN2 R1 R2
    rcases HF with h|⟨h,h'⟩|⟨h,h',h''⟩|⟨h,h',h'',h4⟩<;>(
     go_upto_region 9 with (go_step3)
     cases o1
     rotate_left
     ·go_wp2_with (first|(go_at_call 59;(with_reducible first|refine (O1 _).mono ?_|refine (O2 _).mono ?_|refine (O3 _).mono ?_|refine (O4 _).mono ?_);rintro e w8 ⟨rfl,hb8⟩;have ga:=ga.below hb8;have gb:=gb.below hb8;have gc:=gc.below hb8;have gd:=gd.below hb8;have hB:=Q0j hB hb8;clear hb8;have a0:=ga.c0;have a1:=ga.c1;have a2:=ga.c2;have b0:=gb.c0;have b1:=gb.c1;have b2:=gb.c2;have c0:=gc.c0;have c1:=gc.c1;have c2:=gc.c2;have d0:=gd.c0;have d1:=gd.c1;have d2:=gd.c2)|go_step3)
      go_ret
      exact ⟨by rw [HRF.out];rfl,hB⟩
     cases o2
     rotate_left
     ·go_wp2_with (first|(go_at_call 59;(with_reducible first|refine (O1 _).mono ?_|refine (O2 _).mono ?_|refine (O3 _).mono ?_|refine (O4 _).mono ?_);rintro e w8 ⟨rfl,hb8⟩;have ga:=ga.below hb8;have gb:=gb.below hb8;have gc:=gc.below hb8;have gd:=gd.below hb8;have hB:=Q0j hB hb8;clear hb8;have a0:=ga.c0;have a1:=ga.c1;have a2:=ga.c2;have b0:=gb.c0;have b1:=gb.c1;have b2:=gb.c2;have c0:=gc.c0;have c1:=gc.c1;have c2:=gc.c2;have d0:=gd.c0;have d1:=gd.c1;have d2:=gd.c2)|go_step3)
      go_ret
      exact ⟨by rw [HRF.out];rfl,hB⟩
     cases o3
     rotate_left
     ·go_wp2_with (first|(go_at_call 59;(with_reducible first|refine (O1 _).mono ?_|refine (O2 _).mono ?_|refine (O3 _).mono ?_|refine (O4 _).mono ?_);rintro e w8 ⟨rfl,hb8⟩;have ga:=ga.below hb8;have gb:=gb.below hb8;have gc:=gc.below hb8;have gd:=gd.below hb8;have hB:=Q0j hB hb8;clear hb8;have a0:=ga.c0;have a1:=ga.c1;have a2:=ga.c2;have b0:=gb.c0;have b1:=gb.c1;have b2:=gb.c2;have c0:=gc.c0;have c1:=gc.c1;have c2:=gc.c2;have d0:=gd.c0;have d1:=gd.c1;have d2:=gd.c2)|go_step3)
      go_ret
      exact ⟨by rw [HRF.out];rfl,hB⟩
     cases o4
     rotate_left
     ·go_wp2_with (first|(go_at_call 59;(with_reducible first|refine (O1 _).mono ?_|refine (O2 _).mono ?_|refine (O3 _).mono ?_|refine (O4 _).mono ?_);rintro e w8 ⟨rfl,hb8⟩;have ga:=ga.below hb8;have gb:=gb.below hb8;have gc:=gc.below hb8;have gd:=gd.below hb8;have hB:=Q0j hB hb8;clear hb8;have a0:=ga.c0;have a1:=ga.c1;have a2:=ga.c2;have b0:=gb.c0;have b1:=gb.c1;have b2:=gb.c2;have c0:=gc.c0;have c1:=gc.c1;have c2:=gc.c2;have d0:=gd.c0;have d1:=gd.c1;have d2:=gd.c2)|go_step3)
      go_ret
      exact ⟨by rw [HRF.out];rfl,hB⟩
     go_wp2_with (first|(go_at_call 59;(with_reducible first|refine (O1 _).mono ?_|refine (O2 _).mono ?_|refine (O3 _).mono ?_|refine (O4 _).mono ?_);rintro e w8 ⟨rfl,hb8⟩;have ga:=ga.below hb8;have gb:=gb.below hb8;have gc:=gc.below hb8;have gd:=gd.below hb8;have hB:=Q0j hB hb8;clear hb8;have a0:=ga.c0;have a1:=ga.c1;have a2:=ga.c2;have b0:=gb.c0;have b1:=gb.c1;have b2:=gb.c2;have c0:=gc.c0;have c1:=gc.c1;have c2:=gc.c2;have d0:=gd.c0;have d1:=gd.c1;have d2:=gd.c2)|go_step3)
     go_ret
     exact ⟨by rw [HRF.out];rfl,hB⟩)
 ·have HRF:=AM (show R=0 by rw [HMV.out,if_neg h])
  rw [Bool.eq_false_iff.2 h] at hright
  have a0:=ga.c0
  have a1:=ga.c1
  have a2:=ga.c2
  have b0:=gb.c0
  have b1:=gb.c1
  have b2:=gb.c2
  have c0:=gc.c0
  have c1:=gc.c1
  have c2:=gc.c2
  have d0:=gd.c0
  have d1:=gd.c1
  have d2:=gd.c2
  clear HMV h
  go_wp2_with (first|((with_reducible refine Q0i (N:=17) rfl ?_);refine lit4 ?hg (N:=17) ?hd a b c d ?hr ?_;(case hd=>rfl);(case hg=>rfl);(case hr=>first|(go_simp;done)|(go_simp;rfl));intro w3 hC hb3;have hrr:=hright _ _ hC)|(go_at_call 32;refine hrr.mono ?_;rintro e w4 ⟨rfl,hb4⟩)|go_step3)
  go_ret
  exact ⟨by rw [HRF.out];rfl,Q0j (Q0j hB hb3) hb4⟩
end Go.Proofs.Ytbonkedecfjmdaa.Pl
