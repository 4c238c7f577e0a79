/- What two sides may have in common, as the document says it: the walk. No condition. -/
import Derived.Test.YtbonkedecfjmdaaZ2
import Derived.Test.YtbonkedecfjmdaaZ21
import Derived.Test.YtbonkedecfjmdaaZ20
import Derived.Test.YtbonkedecfjmdaaZ23

namespace Go.Proofs.Ytbonkedecfjmdaa.Pl
set_option linter.unusedVariables false
set_option linter.unusedSimpArgs false
open Go Go.RowKit Go.Proofs.Ytbonkedecfjmdaa.X Go.Proofs.Ytbonkedecfjmdaa.P Go.Proofs.Ytbonkedecfjmdaa.G Go.Proofs.Ytbonkedecfjmdaa.WL Go.Proofs.YtbonkedecfjmdaaW.PrintWords Go.Proofs.YtbonkedecfjmdaaW.PrintLast Go.Proofs.YtbonkedecfjmdaaW.PrintMore
theorem cl {w:World} {ad:Addr} {a:List Pt} (h:Kd.C k27 w (some ad) a.length a) (j:Nat) (hj:j<a.length):w.cell? (ad.add (j*3))=some (.int .i64 (pa a j).f0)∧w.cell? ⟨(ad.add (j*3)).block,(ad.add (j*3)).off+1,none⟩=some (.int .i64 (pa a j).f1)∧w.cell? ⟨(ad.add (j*3)).block,(ad.add (j*3)).off+2,none⟩=some (.int .i64 (pa a j).f2):=by
 obtain ⟨ad',e,h0,h1,h2⟩:=Q2i h (j:Int) (by omega) (by omega)
 injection e with e
 subst e
 rw [Q60,Int.toNat_natCast] at h0 h1 h2
 exact ⟨h0,h1,h2⟩
attribute [local go_sem high] eqA27
theorem cl0 {w:World} {ad:Addr} {a:List Pt} (h:Kd.C k27 w (some ad) a.length a) (hj:0<a.length):w.cell? ad=some (.int .i64 (pa a 0).f0)∧w.cell? ⟨ad.block,ad.off+1,none⟩=some (.int .i64 (pa a 0).f1)∧w.cell? ⟨ad.block,ad.off+2,none⟩=some (.int .i64 (pa a 0).f2):=by
 obtain ⟨h0,h1,h2⟩:=cl h 0 hj
 rw [show 0*3=0 from rfl,Addr.add_zero'] at h0 h1 h2
 exact ⟨h0,h1,h2⟩
theorem Qhq (n:Nat) (h:n≤1048576) (h2:2≤n):IntKind.i64.wrap ((n:Int) - 1)=(n:Int) - 1∧((n:Int) - 1).toNat=n - 1∧IntKind.i64.wrap ((n:Int) - 2)=(n:Int) - 2:=⟨by rw [Q1r];unfold wrap64;omega,by omega,by rw [Q1r];unfold wrap64;omega⟩
theorem Q9h (a b c d:Pt):∀ W:World,Calls Try.prog 74 #[ptA a,ptA b,ptA c,ptA d] W fun e w'=>e=.returned (.int .i64 (meetC a b c d))∧Below W.heap.size W w':=by
 obtain ⟨K,hK⟩:=Qdl a b c d
 rw [Q5u]
 exact fun W=>Q0t.calls K _ _ _ _ _ _ _ _ _ _ _ _ _ W (hK K (Nat.le_refl _))
theorem Q82 (p a b:Pt):∀ W:World,Calls Try.prog 62 #[ptA p,ptA a,ptA b] W fun e w'=>e=.returned (.bool (onB p a b))∧Below W.heap.size W w':=by
 obtain ⟨K,hK⟩:=Q95 p a b
 exact fun W=>Q28.calls K _ _ _ _ _ _ _ _ _ _ W (hK K (Nat.le_refl _))
theorem Qhv (i:Nat) (h:i≤1048576):IntKind.i64.wrap ((i:Int)+1)=(i:Int)+1∧((i:Int)+1).toNat=i+1:=⟨by rw [Q1r];unfold wrap64;omega,by omega⟩
theorem C4 {w:World} {g:Nat} {p q r s:Pt} (hg:w.heap[g]? = some (.cells #[.int .i64 p.f0,.int .i64 p.f1,.int .i64 p.f2,.int .i64 q.f0,.int .i64 q.f1,.int .i64 q.f2,.int .i64 r.f0,.int .i64 r.f1,.int .i64 r.f2,.int .i64 s.f0,.int .i64 s.f1,.int .i64 s.f2] 27 (0,0))):Kd.C k27 w (some ⟨g,0,none⟩) 4 [p,q,r,s]:=by
 refine ⟨rfl,by simp,fun _=>⟨⟨g,0,none⟩,rfl,fun j x hx => ?_⟩⟩
 have c:=fun i=>cell_of_row w g i _ _ _ hg
 have ad:∀ i:Nat,(Addr.add ⟨g,0,none⟩ i)=⟨g,i,none⟩:=fun i=>by rw [Addr.add_mid];simp
 have hk:∀ x:Pt,k27.K w x [.int .i64 x.f0,.int .i64 x.f1,.int .i64 x.f2]:=fun x=>⟨_,_,rfl,rfl,⟨_,_,rfl,rfl,rfl⟩⟩
 have hj:j<4:=by
  rcases Nat.lt_or_ge j 4 with h|h
  ·exact h
  ·rw [List.getElem?_eq_none (by simpa using h)] at hx;cases hx
 refine ⟨_,rfl,hk x,fun i u hu => ?_⟩
 have hi:i<3:=by
  rcases Nat.lt_or_ge i 3 with h|h
  ·exact h
  ·rw [List.getElem?_eq_none (by simpa using h)] at hu;cases hu
 rw [show j*k27.sz+i=j*3+i from rfl,ad,c]
 rcases j with _|_|_|_|j<;>rcases i with _|_|_|i<;>first|omega|(simp at hx hu;subst hx;subst hu;rfl)
set_option maxHeartbeats 8000000 in
set_option maxRecDepth 100000 in
theorem Q8j (A B:Option Addr) (c0 c1:Nat) (a b:List Pt) (i k:Nat) (same:Bool) (w:World) (hra:Kd.C k27 w A a.length a) (hca:a.length≤c0) (hrb:Kd.C k27 w B b.length b) (hcb:b.length≤c1)
  (hi:i+1<a.length) (hk:k+1<b.length) (hla:a.length≤1048576) (hlb:b.length≤1048576) :
  Calls Try.prog 55 #[.slice A a.length c0,.int .i64 (i:Int),.slice B b.length c1,.int .i64 (k:Int),.bool same] w fun e w'=>e=.returned (.bool (commonV a i b k same))∧Below w.heap.size w w':=by
 have hu27:=Try.underlying27
 obtain ⟨ad,eA,_⟩:=hra.2.2 (by omega)
 obtain ⟨bd,eB,_⟩:=hrb.2.2 (by omega)
 subst eA
 subst eB
 have hca:=fun (W:World) (h:Below w.heap.size w W) (j:Nat) (hj:j<a.length)=>cl (Kd.Q12 hra h) j hj
 have hcb:=fun (W:World) (h:Below w.heap.size w W) (j:Nat) (hj:j<b.length)=>cl (Kd.Q12 hrb h) j hj
 have H0:=AM (fun (W:World) (h:Below w.heap.size w W)=>And.intro (cl0 (Kd.Q12 hra h) (show 0<a.length by omega)) (cl0 (Kd.Q12 hrb h) (show 0<b.length by omega)))
 have HCA:=AM hca
 have HCB:=AM hcb
 clear hca hcb
 have HR:Aside0 (commonV a i b k same=if meetC (pa a i) (pa a (i+1)) (pa b k) (pa b (k+1))=0 then true else if meetC (pa a i) (pa a (i+1)) (pa b k) (pa b (k+1))>1 then false else comL a i b k same [pa a i,pa a (i+1),pa b k,pa b (k+1)]):=⟨rfl⟩
 have hmeet:=Q9h (pa a i) (pa a (i+1)) (pa b k) (pa b (k+1))
 have hon1:=fun p=>Q82 p (pa a i) (pa a (i+1))
 have hon2:=fun p=>Q82 p (pa b k) (pa b (k+1))
 have HF:Aside0 (∀ p t,comL a i b k same (p :: t)=if (onB p (pa a i) (pa a (i+1))&&onB p (pa b k) (pa b (k+1)))=true then finC a i b k same p else comL a i b k same t):=⟨fun _ _=>rfl⟩
 obtain ⟨ei,ei2⟩:=Qhv i (by omega)
 obtain ⟨ek,ek2⟩:=Qhv k (by omega)
 have i0:(0:Int)≤(i:Int):=by omega
 have i1:(i:Int)<(a.length:Int):=by omega
 have i2:(0:Int)≤(i:Int)+1:=by omega
 have i3:(i:Int)+1<(a.length:Int):=by omega
 have k0:(0:Int)≤(k:Int):=by omega
 have k1:(k:Int)<(b.length:Int):=by omega
 have k2:(0:Int)≤(k:Int)+1:=by omega
 have k3:(k:Int)+1<(b.length:Int):=by omega
 obtain ⟨p0,p1,p2⟩:=HCA.out w (Below.refl _ _) i (by omega)
 obtain ⟨q0,q1,q2⟩:=HCA.out w (Below.refl _ _) (i+1) (by omega)
 obtain ⟨u0,u1,u2⟩:=HCB.out w (Below.refl _ _) k (by omega)
 obtain ⟨v0,v1,v2⟩:=HCB.out w (Below.refl _ _) (k+1) (by omega)
 generalize commonV a i b k same=R at *
 generalize meetC (pa a i) (pa a (i+1)) (pa b k) (pa b (k+1))=n at *
 go_enter Try.func55,Try.ntmps55
 go_upto_region 1 with (fail)
 --REGION1
 refine sP 20 (S:=fun w'=>w'.cell? (ad.add (i*3))=some (.int .i64 (pa a i).f0)∧w'.cell? ⟨(ad.add (i*3)).block,(ad.add (i*3)).off+1,none⟩=some (.int .i64 (pa a i).f1)∧w'.cell? ⟨(ad.add (i*3)).block,(ad.add (i*3)).off+2,none⟩=some (.int .i64 (pa a i).f2)∧w'.cell? (ad.add ((i+1)*3))=some (.int .i64 (pa a (i+1)).f0)∧w'.cell? ⟨(ad.add ((i+1)*3)).block,(ad.add ((i+1)*3)).off+1,none⟩=some (.int .i64 (pa a (i+1)).f1)∧w'.cell? ⟨(ad.add ((i+1)*3)).block,(ad.add ((i+1)*3)).off+2,none⟩=some (.int .i64 (pa a (i+1)).f2)∧w'.cell? (bd.add (k*3))=some (.int .i64 (pa b k).f0)∧w'.cell? ⟨(bd.add (k*3)).block,(bd.add (k*3)).off+1,none⟩=some (.int .i64 (pa b k).f1)∧w'.cell? ⟨(bd.add (k*3)).block,(bd.add (k*3)).off+2,none⟩=some (.int .i64 (pa b k).f2)∧w'.cell? (bd.add ((k+1)*3))=some (.int .i64 (pa b (k+1)).f0)∧w'.cell? ⟨(bd.add ((k+1)*3)).block,(bd.add ((k+1)*3)).off+1,none⟩=some (.int .i64 (pa b (k+1)).f1)∧w'.cell? ⟨(bd.add ((k+1)*3)).block,(bd.add ((k+1)*3)).off+2,none⟩=some (.int .i64 (pa b (k+1)).f2)) (ds:=[]) ⟨p0,p1,p2,q0,q1,q2,u0,u1,u2,v0,v1,v2⟩ fun hHeld => ?_
 refine pP 0 (some 17) ?_;refine pP 1 (some 18) ?_;refine pP 2 (some 19) ?_;refine pP 4 (some 21) ?_;refine pP 5 (some 22) ?_;refine pP 6 (some 23) ?_;refine pP 7 (some 24) ?_;refine pP 9 (some 26) ?_;refine pP 10 (some 27) ?_;refine pP 11 (some 28) ?_;refine pP 13 (some 30) ?_;refine pP 14 (some 31) ?_;refine pP 15 (some 32) ?_;refine pP 16 (some 33) ?_;refine tP 3 (some 20) hHeld ?_;refine tP 8 (some 25) hHeld ?_;refine tP 12 (some 29) hHeld ?_;refine tP 17 (some 34) hHeld ?_
 refine oP 18 (some 35) rfl fun K hK => ?_
 refine goes_ Try.func74 (by kernel_rfl) rfl #[ptA (pa a i),ptA (pa a (i+1)),ptA (pa b k),ptA (pa b (k+1))] (by rfl) rfl rfl (by simp only [List.map_toArray,List.map_cons,List.map_nil];rfl) ?_
 with_reducible refine (hmeet _).mono ?_
 rintro e w2 ⟨rfl,hb2⟩
 refine ⟨_,rfl,?_⟩
 refine hK.out _ _ ⟨((hb2.cell (World.block_lt_of_cell? _ _ p0)).trans p0),((hb2.cell (World.block_lt_of_cell? _ _ p1)).trans p1),((hb2.cell (World.block_lt_of_cell? _ _ p2)).trans p2),((hb2.cell (World.block_lt_of_cell? _ _ q0)).trans q0),((hb2.cell (World.block_lt_of_cell? _ _ q1)).trans q1),((hb2.cell (World.block_lt_of_cell? _ _ q2)).trans q2),((hb2.cell (World.block_lt_of_cell? _ _ u0)).trans u0),((hb2.cell (World.block_lt_of_cell? _ _ u1)).trans u1),((hb2.cell (World.block_lt_of_cell? _ _ u2)).trans u2),((hb2.cell (World.block_lt_of_cell? _ _ v0)).trans v0),((hb2.cell (World.block_lt_of_cell? _ _ v1)).trans v1),((hb2.cell (World.block_lt_of_cell? _ _ v2)).trans v2)⟩ (fun hHeld => ?_)
 clear hK K;refine nP (some 35) ?_;refine pP 19 (some 11) ?_
 refine done_ (by kernel_rfl) ?_
 
 --END1
 have hB2:=Q0j (Q2k (Below.refl _ w)) hb2
 clear hb2 p0 p1 p2 q0 q1 q2 u0 u1 u2 v0 v1 v2 hmeet
 by_cases h0:n=0
 ·have hR:R=true:=by rw [HR.out,if_pos h0]
  subst hR
  have hb:(n==0)=true:=beq_iff_eq.2 h0
  clear h0 HR
  go_wp2
  go_ret
  exact ⟨rfl,hB2⟩
 have hnb:(n==0)=false:=beq_eq_false_iff_ne.2 h0
 by_cases h1:n>1
 ·have hR:R=false:=by rw [HR.out,if_neg h0,if_pos h1]
  subst hR
  have hb:decide (n>1)=true:=decide_eq_true h1
  clear HR h0
  go_wp2
  go_ret
  exact ⟨rfl,hB2⟩
 have hb:decide (n>1)=false:=decide_eq_false h1
 have HR2:Aside0 (R=comL a i b k same [pa a i,pa a (i+1),pa b k,pa b (k+1)]):=⟨by rw [HR.out,if_neg h0,if_neg h1]⟩
 clear HR h0
 obtain ⟨p0,p1,p2⟩:=HCA.out w2 hB2 i (by omega)
 obtain ⟨q0,q1,q2⟩:=HCA.out w2 hB2 (i+1) (by omega)
 obtain ⟨u0,u1,u2⟩:=HCB.out w2 hB2 k (by omega)
 obtain ⟨v0,v1,v2⟩:=HCB.out w2 hB2 (k+1) (by omega)
 go_upto_region 6 with (fail)
 --REGION6
 refine sP 20 (S:=fun w'=>w'.cell? (ad.add (i*3))=some (.int .i64 (pa a i).f0)∧w'.cell? ⟨(ad.add (i*3)).block,(ad.add (i*3)).off+1,none⟩=some (.int .i64 (pa a i).f1)∧w'.cell? ⟨(ad.add (i*3)).block,(ad.add (i*3)).off+2,none⟩=some (.int .i64 (pa a i).f2)∧w'.cell? (ad.add ((i+1)*3))=some (.int .i64 (pa a (i+1)).f0)∧w'.cell? ⟨(ad.add ((i+1)*3)).block,(ad.add ((i+1)*3)).off+1,none⟩=some (.int .i64 (pa a (i+1)).f1)∧w'.cell? ⟨(ad.add ((i+1)*3)).block,(ad.add ((i+1)*3)).off+2,none⟩=some (.int .i64 (pa a (i+1)).f2)∧w'.cell? (bd.add (k*3))=some (.int .i64 (pa b k).f0)∧w'.cell? ⟨(bd.add (k*3)).block,(bd.add (k*3)).off+1,none⟩=some (.int .i64 (pa b k).f1)∧w'.cell? ⟨(bd.add (k*3)).block,(bd.add (k*3)).off+2,none⟩=some (.int .i64 (pa b k).f2)∧w'.cell? (bd.add ((k+1)*3))=some (.int .i64 (pa b (k+1)).f0)∧w'.cell? ⟨(bd.add ((k+1)*3)).block,(bd.add ((k+1)*3)).off+1,none⟩=some (.int .i64 (pa b (k+1)).f1)∧w'.cell? ⟨(bd.add ((k+1)*3)).block,(bd.add ((k+1)*3)).off+2,none⟩=some (.int .i64 (pa b (k+1)).f2)) (ds:=[18]) ⟨p0,p1,p2,q0,q1,q2,u0,u1,u2,v0,v1,v2⟩ fun hHeld => ?_
 refine pP 0 (some 40) ?_;refine pP 1 (some 41) ?_;refine pP 2 (some 42) ?_;refine pP 4 (some 44) ?_;refine pP 5 (some 45) ?_;refine pP 6 (some 46) ?_;refine pP 7 (some 47) ?_;refine pP 9 (some 49) ?_;refine pP 10 (some 50) ?_;refine pP 11 (some 51) ?_;refine pP 13 (some 53) ?_;refine pP 14 (some 54) ?_;refine pP 15 (some 55) ?_;refine pP 16 (some 56) ?_;refine tP 3 (some 43) hHeld ?_;refine tP 8 (some 48) hHeld ?_;refine tP 12 (some 52) hHeld ?_;refine tP 17 (some 57) hHeld ?_
 refine lP 18 (some 58) rfl fun K hK => ?_
 refine value_ (w1 := ?_) (v := ?_) (by rfl) rfl ?_ ?_
 rotate_left 2
 ·go_simp
  constructor
  ·rfl
  ·rfl
 refine hK.out _ _ ?_
 clear hK K;refine nP (some 58) ?_;refine pP 19 (some 12) ?_
 refine done_ (by kernel_rfl) ?_
 
 --END6
 clear p0 p1 p2 q0 q1 q2 u0 u1 u2 v0 v1 v2 hnb hb h1
 have hE:=C4 (heap_alloc_new w2 (.cells #[.int .i64 (pa a i).f0,.int .i64 (pa a i).f1,.int .i64 (pa a i).f2,.int .i64 (pa a (i+1)).f0,.int .i64 (pa a (i+1)).f1,.int .i64 (pa a (i+1)).f2,.int .i64 (pa b k).f0,.int .i64 (pa b k).f1,.int .i64 (pa b k).f2,.int .i64 (pa b (k+1)).f0,.int .i64 (pa b (k+1)).f1,.int .i64 (pa b (k+1)).f2] 27))
 have hB3:=Q2k (Q14 hB2 (.cells #[.int .i64 (pa a i).f0,.int .i64 (pa a i).f1,.int .i64 (pa a i).f2,.int .i64 (pa a (i+1)).f0,.int .i64 (pa a (i+1)).f1,.int .i64 (pa a (i+1)).f2,.int .i64 (pa b k).f0,.int .i64 (pa b k).f1,.int .i64 (pa b k).f2,.int .i64 (pa b (k+1)).f0,.int .i64 (pa b (k+1)).f1,.int .i64 (pa b (k+1)).f2] 27))
 have hE:=Kd.Q33 hE
 generalize (w2.alloc (.cells #[.int .i64 (pa a i).f0,.int .i64 (pa a i).f1,.int .i64 (pa a i).f2,.int .i64 (pa a (i+1)).f0,.int .i64 (pa a (i+1)).f1,.int .i64 (pa a (i+1)).f2,.int .i64 (pa b k).f0,.int .i64 (pa b k).f1,.int .i64 (pa b k).f2,.int .i64 (pa b (k+1)).f0,.int .i64 (pa b (k+1)).f1,.int .i64 (pa b (k+1)).f2] 27)).drew=w3 at hE hB3 ⊢
 generalize (⟨w2.heap.size,0,none⟩:Addr)=ed at hE ⊢
 have hEl:[pa a i,pa a (i+1),pa b k,pa b (k+1)].length=4:=rfl
 generalize [pa a i,pa a (i+1),pa b k,pa b (k+1)]=E at hE hEl HR2
 rw [← hEl] at hE
 have HEL:=AM hEl
 clear hEl
 have HCE:=AM (fun (W:World) (h:Below w3.heap.size w3 W) (j:Nat) (hj:j<E.length)=>cl (Kd.Q12 hE h) j hj)
 clear hE hB2 hra hrb
 go_wp2
 go_loopw [13] (fun v wr=>∃ j:Nat,j≤4∧v=.int .i64 j∧Aside0 (R=comL a i b k same (E.drop j))∧Below w3.heap.size w3 wr) (fun v _=>4 - (intV v).toNat)
 case atStart=>exact ⟨0,by omega,rfl,⟨HR2.out⟩,Below.refl _ _⟩
 case round =>
  obtain ⟨j,hj,rfl,HRj,hB⟩:=hrel
  rcases Nat.lt_or_ge j 4 with hlt|hge
  ·have j0:(0:Int)≤(j:Int):=by omega
   have j1:(j:Int)<4:=by omega
   have j1b:decide ((j:Int)<4)=true:=decide_eq_true j1
   have hjE:j<E.length:=by rw [HEL.out];exact hlt
   have hd:E.drop j=pa E j :: E.drop (j+1):=by rw [List.drop_eq_getElem_cons hjE,Qal E j hjE]
   have HQ:Aside0 (R=if (onB (pa E j) (pa a i) (pa a (i+1))&&onB (pa E j) (pa b k) (pa b (k+1)))=true then finC a i b k same (pa E j) else comL a i b k same (E.drop (j+1))):=⟨by rw [HRj.out,hd,HF.out]⟩
   have o1:=hon1 (pa E j)
   have o2:=hon2 (pa E j)
   obtain ⟨s0,s1,s2⟩:=HCE.out wr hB j hjE
   clear HRj hd
   generalize hp:pa E j=p at s0 s1 s2 o1 o2 HQ
   clear hp
   go_upto_region 11 with (fail)
   have hg4:At (wr.alloc (.cells #[.int .i64 p.f0,.int .i64 p.f1,.int .i64 p.f2] 27)) wr.heap.size p:=heap_alloc_new wr _
   have hB4:=Q14 hB (.cells #[.int .i64 p.f0,.int .i64 p.f1,.int .i64 p.f2] 27)
   generalize wr.alloc (.cells #[.int .i64 p.f0,.int .i64 p.f1,.int .i64 p.f2] 27)=w4 at hg4 hB4 ⊢
   generalize wr.heap.size=g4 at hg4 ⊢
   have hW4:=Q0j hB3 hB4
   clear s0 s1 s2 hB
   have s0:w4.cell? ⟨g4,0,none⟩=some (.int .i64 p.f0):=(Q0v hg4 0).trans rfl
   have s1:w4.cell? ⟨g4,1,none⟩=some (.int .i64 p.f1):=(Q0v hg4 1).trans rfl
   have s2:w4.cell? ⟨g4,2,none⟩=some (.int .i64 p.f2):=(Q0v hg4 2).trans rfl
   obtain ⟨p0,p1,p2⟩:=HCA.out w4 hW4 i (by omega)
   obtain ⟨q0,q1,q2⟩:=HCA.out w4 hW4 (i+1) (by omega)
   obtain ⟨u0,u1,u2⟩:=HCB.out w4 hW4 k (by omega)
   obtain ⟨v0,v1,v2⟩:=HCB.out w4 hW4 (k+1) (by omega)
   cases h1:onB p (pa a i) (pa a (i+1)) with
   | false =>
    rw [h1] at o1 HQ
    have HQ2:Aside0 (R=comL a i b k same (E.drop (j+1))):=⟨by rw [HQ.out];rfl⟩
    clear h1 HQ
    --REGION11a
    refine sP 26 (S:=fun w'=>w'.cell? ⟨g4,0,none⟩=some (.int .i64 p.f0)∧w'.cell? ⟨g4,1,none⟩=some (.int .i64 p.f1)∧w'.cell? ⟨g4,2,none⟩=some (.int .i64 p.f2)∧w'.cell? (ad.add (i*3))=some (.int .i64 (pa a i).f0)∧w'.cell? ⟨(ad.add (i*3)).block,(ad.add (i*3)).off+1,none⟩=some (.int .i64 (pa a i).f1)∧w'.cell? ⟨(ad.add (i*3)).block,(ad.add (i*3)).off+2,none⟩=some (.int .i64 (pa a i).f2)∧w'.cell? (ad.add ((i+1)*3))=some (.int .i64 (pa a (i+1)).f0)∧w'.cell? ⟨(ad.add ((i+1)*3)).block,(ad.add ((i+1)*3)).off+1,none⟩=some (.int .i64 (pa a (i+1)).f1)∧w'.cell? ⟨(ad.add ((i+1)*3)).block,(ad.add ((i+1)*3)).off+2,none⟩=some (.int .i64 (pa a (i+1)).f2)∧w'.cell? (bd.add (k*3))=some (.int .i64 (pa b k).f0)∧w'.cell? ⟨(bd.add (k*3)).block,(bd.add (k*3)).off+1,none⟩=some (.int .i64 (pa b k).f1)∧w'.cell? ⟨(bd.add (k*3)).block,(bd.add (k*3)).off+2,none⟩=some (.int .i64 (pa b k).f2)∧w'.cell? (bd.add ((k+1)*3))=some (.int .i64 (pa b (k+1)).f0)∧w'.cell? ⟨(bd.add ((k+1)*3)).block,(bd.add ((k+1)*3)).off+1,none⟩=some (.int .i64 (pa b (k+1)).f1)∧w'.cell? ⟨(bd.add ((k+1)*3)).block,(bd.add ((k+1)*3)).off+2,none⟩=some (.int .i64 (pa b (k+1)).f2)) (ds:=[]) ⟨s0,s1,s2,p0,p1,p2,q0,q1,q2,u0,u1,u2,v0,v1,v2⟩ fun hHeld => ?_
    refine pP 1 (some 68) ?_;refine pP 2 (some 69) ?_;refine pP 3 (some 70) ?_;refine pP 5 (some 72) ?_;refine pP 6 (some 73) ?_;refine pP 7 (some 74) ?_;refine pP 8 (some 75) ?_;refine tP 0 (some 67) hHeld ?_;refine tP 4 (some 71) hHeld ?_;refine tP 9 (some 76) hHeld ?_
    refine oP 10 (some 77) rfl fun K hK => ?_
    refine goes_ Try.func62 (by kernel_rfl) rfl #[ptA p,ptA (pa a i),ptA (pa a (i+1))] (by rfl) rfl rfl (by simp only [List.map_toArray,List.map_cons,List.map_nil];rfl) ?_
    with_reducible refine (o1 _).mono ?_
    rintro e w5 ⟨rfl,hb5⟩
    refine ⟨_,rfl,?_⟩
    refine hK.out _ _ ⟨((hb5.cell (World.block_lt_of_cell? _ _ s0)).trans s0),((hb5.cell (World.block_lt_of_cell? _ _ s1)).trans s1),((hb5.cell (World.block_lt_of_cell? _ _ s2)).trans s2),((hb5.cell (World.block_lt_of_cell? _ _ p0)).trans p0),((hb5.cell (World.block_lt_of_cell? _ _ p1)).trans p1),((hb5.cell (World.block_lt_of_cell? _ _ p2)).trans p2),((hb5.cell (World.block_lt_of_cell? _ _ q0)).trans q0),((hb5.cell (World.block_lt_of_cell? _ _ q1)).trans q1),((hb5.cell (World.block_lt_of_cell? _ _ q2)).trans q2),((hb5.cell (World.block_lt_of_cell? _ _ u0)).trans u0),((hb5.cell (World.block_lt_of_cell? _ _ u1)).trans u1),((hb5.cell (World.block_lt_of_cell? _ _ u2)).trans u2),((hb5.cell (World.block_lt_of_cell? _ _ v0)).trans v0),((hb5.cell (World.block_lt_of_cell? _ _ v1)).trans v1),((hb5.cell (World.block_lt_of_cell? _ _ v2)).trans v2)⟩ (fun hHeld => ?_)
    clear hK K;refine nP (some 77) ?_;refine pP 11 (some 78) ?_;refine pP 12 (some 79) ?_;refine uP 13 (some 80) ?_;refine uP 14 (some 81) ?_;refine uP 15 (some 82) ?_;refine uP 16 (some 83) ?_;refine uP 17 (some 84) ?_;refine uP 18 (some 85) ?_;refine uP 19 (some 86) ?_;refine uP 20 (some 87) ?_;refine uP 21 (some 88) ?_;refine uP 22 (some 89) ?_;refine uP 23 (some 90) ?_;refine uP 24 (some 91) ?_;refine pP 25 (some 92) ?_
    refine done_ (by kernel_rfl) ?_
    
    --END11a
    go_wp2
    go_roundw
    case rel=>exact ⟨j+1,by omega,rfl,HQ2,Q0j (Q2k hB4) hb5⟩
    case measure=>simp [intV];omega
   | true =>
    rw [h1] at o1 HQ
    clear h1
    cases h2:onB p (pa b k) (pa b (k+1)) with
    | false =>
     rw [h2] at o2 HQ
     have HQ2:Aside0 (R=comL a i b k same (E.drop (j+1))):=⟨by rw [HQ.out];rfl⟩
     clear h2 HQ
     --REGION11b
     refine sP 26 (S:=fun w'=>w'.cell? ⟨g4,0,none⟩=some (.int .i64 p.f0)∧w'.cell? ⟨g4,1,none⟩=some (.int .i64 p.f1)∧w'.cell? ⟨g4,2,none⟩=some (.int .i64 p.f2)∧w'.cell? (ad.add (i*3))=some (.int .i64 (pa a i).f0)∧w'.cell? ⟨(ad.add (i*3)).block,(ad.add (i*3)).off+1,none⟩=some (.int .i64 (pa a i).f1)∧w'.cell? ⟨(ad.add (i*3)).block,(ad.add (i*3)).off+2,none⟩=some (.int .i64 (pa a i).f2)∧w'.cell? (ad.add ((i+1)*3))=some (.int .i64 (pa a (i+1)).f0)∧w'.cell? ⟨(ad.add ((i+1)*3)).block,(ad.add ((i+1)*3)).off+1,none⟩=some (.int .i64 (pa a (i+1)).f1)∧w'.cell? ⟨(ad.add ((i+1)*3)).block,(ad.add ((i+1)*3)).off+2,none⟩=some (.int .i64 (pa a (i+1)).f2)∧w'.cell? (bd.add (k*3))=some (.int .i64 (pa b k).f0)∧w'.cell? ⟨(bd.add (k*3)).block,(bd.add (k*3)).off+1,none⟩=some (.int .i64 (pa b k).f1)∧w'.cell? ⟨(bd.add (k*3)).block,(bd.add (k*3)).off+2,none⟩=some (.int .i64 (pa b k).f2)∧w'.cell? (bd.add ((k+1)*3))=some (.int .i64 (pa b (k+1)).f0)∧w'.cell? ⟨(bd.add ((k+1)*3)).block,(bd.add ((k+1)*3)).off+1,none⟩=some (.int .i64 (pa b (k+1)).f1)∧w'.cell? ⟨(bd.add ((k+1)*3)).block,(bd.add ((k+1)*3)).off+2,none⟩=some (.int .i64 (pa b (k+1)).f2)) (ds:=[]) ⟨s0,s1,s2,p0,p1,p2,q0,q1,q2,u0,u1,u2,v0,v1,v2⟩ fun hHeld => ?_
     refine pP 1 (some 68) ?_;refine pP 2 (some 69) ?_;refine pP 3 (some 70) ?_;refine pP 5 (some 72) ?_;refine pP 6 (some 73) ?_;refine pP 7 (some 74) ?_;refine pP 8 (some 75) ?_;refine tP 0 (some 67) hHeld ?_;refine tP 4 (some 71) hHeld ?_;refine tP 9 (some 76) hHeld ?_
     refine oP 10 (some 77) rfl fun K hK => ?_
     refine goes_ Try.func62 (by kernel_rfl) rfl #[ptA p,ptA (pa a i),ptA (pa a (i+1))] (by rfl) rfl rfl (by simp only [List.map_toArray,List.map_cons,List.map_nil];rfl) ?_
     with_reducible refine (o1 _).mono ?_
     rintro e w5 ⟨rfl,hb5⟩
     refine ⟨_,rfl,?_⟩
     refine hK.out _ _ ⟨((hb5.cell (World.block_lt_of_cell? _ _ s0)).trans s0),((hb5.cell (World.block_lt_of_cell? _ _ s1)).trans s1),((hb5.cell (World.block_lt_of_cell? _ _ s2)).trans s2),((hb5.cell (World.block_lt_of_cell? _ _ p0)).trans p0),((hb5.cell (World.block_lt_of_cell? _ _ p1)).trans p1),((hb5.cell (World.block_lt_of_cell? _ _ p2)).trans p2),((hb5.cell (World.block_lt_of_cell? _ _ q0)).trans q0),((hb5.cell (World.block_lt_of_cell? _ _ q1)).trans q1),((hb5.cell (World.block_lt_of_cell? _ _ q2)).trans q2),((hb5.cell (World.block_lt_of_cell? _ _ u0)).trans u0),((hb5.cell (World.block_lt_of_cell? _ _ u1)).trans u1),((hb5.cell (World.block_lt_of_cell? _ _ u2)).trans u2),((hb5.cell (World.block_lt_of_cell? _ _ v0)).trans v0),((hb5.cell (World.block_lt_of_cell? _ _ v1)).trans v1),((hb5.cell (World.block_lt_of_cell? _ _ v2)).trans v2)⟩ (fun hHeld => ?_)
     clear hK K;refine nP (some 77) ?_;refine pP 11 (some 78) ?_;refine pP 12 (some 79) ?_;refine pP 14 (some 81) ?_;refine pP 15 (some 82) ?_;refine pP 16 (some 83) ?_;refine pP 18 (some 85) ?_;refine pP 19 (some 86) ?_;refine pP 20 (some 87) ?_;refine pP 21 (some 88) ?_;refine tP 13 (some 80) hHeld ?_;refine tP 17 (some 84) hHeld ?_;refine tP 22 (some 89) hHeld ?_
     refine oP 23 (some 90) rfl fun K hK => ?_
     refine goes_ Try.func62 (by kernel_rfl) rfl #[ptA p,ptA (pa b k),ptA (pa b (k+1))] (by rfl) rfl rfl (by simp only [List.map_toArray,List.map_cons,List.map_nil];rfl) ?_
     with_reducible refine (o2 _).mono ?_
     rintro e w6 ⟨rfl,hb6⟩
     refine ⟨_,rfl,?_⟩
     refine hK.out _ _ ⟨((hb6.cell (World.block_lt_of_cell? _ _ (hHeld.1))).trans (hHeld.1)),((hb6.cell (World.block_lt_of_cell? _ _ (hHeld.2.1))).trans (hHeld.2.1)),((hb6.cell (World.block_lt_of_cell? _ _ (hHeld.2.2.1))).trans (hHeld.2.2.1)),((hb6.cell (World.block_lt_of_cell? _ _ (hHeld.2.2.2.1))).trans (hHeld.2.2.2.1)),((hb6.cell (World.block_lt_of_cell? _ _ (hHeld.2.2.2.2.1))).trans (hHeld.2.2.2.2.1)),((hb6.cell (World.block_lt_of_cell? _ _ (hHeld.2.2.2.2.2.1))).trans (hHeld.2.2.2.2.2.1)),((hb6.cell (World.block_lt_of_cell? _ _ (hHeld.2.2.2.2.2.2.1))).trans (hHeld.2.2.2.2.2.2.1)),((hb6.cell (World.block_lt_of_cell? _ _ (hHeld.2.2.2.2.2.2.2.1))).trans (hHeld.2.2.2.2.2.2.2.1)),((hb6.cell (World.block_lt_of_cell? _ _ (hHeld.2.2.2.2.2.2.2.2.1))).trans (hHeld.2.2.2.2.2.2.2.2.1)),((hb6.cell (World.block_lt_of_cell? _ _ (hHeld.2.2.2.2.2.2.2.2.2.1))).trans (hHeld.2.2.2.2.2.2.2.2.2.1)),((hb6.cell (World.block_lt_of_cell? _ _ (hHeld.2.2.2.2.2.2.2.2.2.2.1))).trans (hHeld.2.2.2.2.2.2.2.2.2.2.1)),((hb6.cell (World.block_lt_of_cell? _ _ (hHeld.2.2.2.2.2.2.2.2.2.2.2.1))).trans (hHeld.2.2.2.2.2.2.2.2.2.2.2.1)),((hb6.cell (World.block_lt_of_cell? _ _ (hHeld.2.2.2.2.2.2.2.2.2.2.2.2.1))).trans (hHeld.2.2.2.2.2.2.2.2.2.2.2.2.1)),((hb6.cell (World.block_lt_of_cell? _ _ (hHeld.2.2.2.2.2.2.2.2.2.2.2.2.2.1))).trans (hHeld.2.2.2.2.2.2.2.2.2.2.2.2.2.1)),((hb6.cell (World.block_lt_of_cell? _ _ (hHeld.2.2.2.2.2.2.2.2.2.2.2.2.2.2))).trans (hHeld.2.2.2.2.2.2.2.2.2.2.2.2.2.2))⟩ (fun hHeld => ?_)
     clear hK K;refine nP (some 90) ?_;refine pP 24 (some 91) ?_;refine pP 25 (some 92) ?_
     refine done_ (by kernel_rfl) ?_
     
     --END11b
     go_wp2
     go_roundw
     case rel=>exact ⟨j+1,by omega,rfl,HQ2,Q0j (Q0j (Q2k hB4) hb5) hb6⟩
     case measure=>simp [intV];omega
    | true =>
     rw [h2] at o2 HQ
     have HQ2:Aside0 (R=finC a i b k same p):=⟨by rw [HQ.out];rfl⟩
     clear h2 HQ
     --REGION11c
     refine sP 26 (S:=fun w'=>w'.cell? ⟨g4,0,none⟩=some (.int .i64 p.f0)∧w'.cell? ⟨g4,1,none⟩=some (.int .i64 p.f1)∧w'.cell? ⟨g4,2,none⟩=some (.int .i64 p.f2)∧w'.cell? (ad.add (i*3))=some (.int .i64 (pa a i).f0)∧w'.cell? ⟨(ad.add (i*3)).block,(ad.add (i*3)).off+1,none⟩=some (.int .i64 (pa a i).f1)∧w'.cell? ⟨(ad.add (i*3)).block,(ad.add (i*3)).off+2,none⟩=some (.int .i64 (pa a i).f2)∧w'.cell? (ad.add ((i+1)*3))=some (.int .i64 (pa a (i+1)).f0)∧w'.cell? ⟨(ad.add ((i+1)*3)).block,(ad.add ((i+1)*3)).off+1,none⟩=some (.int .i64 (pa a (i+1)).f1)∧w'.cell? ⟨(ad.add ((i+1)*3)).block,(ad.add ((i+1)*3)).off+2,none⟩=some (.int .i64 (pa a (i+1)).f2)∧w'.cell? (bd.add (k*3))=some (.int .i64 (pa b k).f0)∧w'.cell? ⟨(bd.add (k*3)).block,(bd.add (k*3)).off+1,none⟩=some (.int .i64 (pa b k).f1)∧w'.cell? ⟨(bd.add (k*3)).block,(bd.add (k*3)).off+2,none⟩=some (.int .i64 (pa b k).f2)∧w'.cell? (bd.add ((k+1)*3))=some (.int .i64 (pa b (k+1)).f0)∧w'.cell? ⟨(bd.add ((k+1)*3)).block,(bd.add ((k+1)*3)).off+1,none⟩=some (.int .i64 (pa b (k+1)).f1)∧w'.cell? ⟨(bd.add ((k+1)*3)).block,(bd.add ((k+1)*3)).off+2,none⟩=some (.int .i64 (pa b (k+1)).f2)) (ds:=[]) ⟨s0,s1,s2,p0,p1,p2,q0,q1,q2,u0,u1,u2,v0,v1,v2⟩ fun hHeld => ?_
     refine pP 1 (some 68) ?_;refine pP 2 (some 69) ?_;refine pP 3 (some 70) ?_;refine pP 5 (some 72) ?_;refine pP 6 (some 73) ?_;refine pP 7 (some 74) ?_;refine pP 8 (some 75) ?_;refine tP 0 (some 67) hHeld ?_;refine tP 4 (some 71) hHeld ?_;refine tP 9 (some 76) hHeld ?_
     refine oP 10 (some 77) rfl fun K hK => ?_
     refine goes_ Try.func62 (by kernel_rfl) rfl #[ptA p,ptA (pa a i),ptA (pa a (i+1))] (by rfl) rfl rfl (by simp only [List.map_toArray,List.map_cons,List.map_nil];rfl) ?_
     with_reducible refine (o1 _).mono ?_
     rintro e w5 ⟨rfl,hb5⟩
     refine ⟨_,rfl,?_⟩
     refine hK.out _ _ ⟨((hb5.cell (World.block_lt_of_cell? _ _ s0)).trans s0),((hb5.cell (World.block_lt_of_cell? _ _ s1)).trans s1),((hb5.cell (World.block_lt_of_cell? _ _ s2)).trans s2),((hb5.cell (World.block_lt_of_cell? _ _ p0)).trans p0),((hb5.cell (World.block_lt_of_cell? _ _ p1)).trans p1),((hb5.cell (World.block_lt_of_cell? _ _ p2)).trans p2),((hb5.cell (World.block_lt_of_cell? _ _ q0)).trans q0),((hb5.cell (World.block_lt_of_cell? _ _ q1)).trans q1),((hb5.cell (World.block_lt_of_cell? _ _ q2)).trans q2),((hb5.cell (World.block_lt_of_cell? _ _ u0)).trans u0),((hb5.cell (World.block_lt_of_cell? _ _ u1)).trans u1),((hb5.cell (World.block_lt_of_cell? _ _ u2)).trans u2),((hb5.cell (World.block_lt_of_cell? _ _ v0)).trans v0),((hb5.cell (World.block_lt_of_cell? _ _ v1)).trans v1),((hb5.cell (World.block_lt_of_cell? _ _ v2)).trans v2)⟩ (fun hHeld => ?_)
     clear hK K;refine nP (some 77) ?_;refine pP 11 (some 78) ?_;refine pP 12 (some 79) ?_;refine pP 14 (some 81) ?_;refine pP 15 (some 82) ?_;refine pP 16 (some 83) ?_;refine pP 18 (some 85) ?_;refine pP 19 (some 86) ?_;refine pP 20 (some 87) ?_;refine pP 21 (some 88) ?_;refine tP 13 (some 80) hHeld ?_;refine tP 17 (some 84) hHeld ?_;refine tP 22 (some 89) hHeld ?_
     refine oP 23 (some 90) rfl fun K hK => ?_
     refine goes_ Try.func62 (by kernel_rfl) rfl #[ptA p,ptA (pa b k),ptA (pa b (k+1))] (by rfl) rfl rfl (by simp only [List.map_toArray,List.map_cons,List.map_nil];rfl) ?_
     with_reducible refine (o2 _).mono ?_
     rintro e w6 ⟨rfl,hb6⟩
     refine ⟨_,rfl,?_⟩
     refine hK.out _ _ ⟨((hb6.cell (World.block_lt_of_cell? _ _ (hHeld.1))).trans (hHeld.1)),((hb6.cell (World.block_lt_of_cell? _ _ (hHeld.2.1))).trans (hHeld.2.1)),((hb6.cell (World.block_lt_of_cell? _ _ (hHeld.2.2.1))).trans (hHeld.2.2.1)),((hb6.cell (World.block_lt_of_cell? _ _ (hHeld.2.2.2.1))).trans (hHeld.2.2.2.1)),((hb6.cell (World.block_lt_of_cell? _ _ (hHeld.2.2.2.2.1))).trans (hHeld.2.2.2.2.1)),((hb6.cell (World.block_lt_of_cell? _ _ (hHeld.2.2.2.2.2.1))).trans (hHeld.2.2.2.2.2.1)),((hb6.cell (World.block_lt_of_cell? _ _ (hHeld.2.2.2.2.2.2.1))).trans (hHeld.2.2.2.2.2.2.1)),((hb6.cell (World.block_lt_of_cell? _ _ (hHeld.2.2.2.2.2.2.2.1))).trans (hHeld.2.2.2.2.2.2.2.1)),((hb6.cell (World.block_lt_of_cell? _ _ (hHeld.2.2.2.2.2.2.2.2.1))).trans (hHeld.2.2.2.2.2.2.2.2.1)),((hb6.cell (World.block_lt_of_cell? _ _ (hHeld.2.2.2.2.2.2.2.2.2.1))).trans (hHeld.2.2.2.2.2.2.2.2.2.1)),((hb6.cell (World.block_lt_of_cell? _ _ (hHeld.2.2.2.2.2.2.2.2.2.2.1))).trans (hHeld.2.2.2.2.2.2.2.2.2.2.1)),((hb6.cell (World.block_lt_of_cell? _ _ (hHeld.2.2.2.2.2.2.2.2.2.2.2.1))).trans (hHeld.2.2.2.2.2.2.2.2.2.2.2.1)),((hb6.cell (World.block_lt_of_cell? _ _ (hHeld.2.2.2.2.2.2.2.2.2.2.2.2.1))).trans (hHeld.2.2.2.2.2.2.2.2.2.2.2.2.1)),((hb6.cell (World.block_lt_of_cell? _ _ (hHeld.2.2.2.2.2.2.2.2.2.2.2.2.2.1))).trans (hHeld.2.2.2.2.2.2.2.2.2.2.2.2.2.1)),((hb6.cell (World.block_lt_of_cell? _ _ (hHeld.2.2.2.2.2.2.2.2.2.2.2.2.2.2))).trans (hHeld.2.2.2.2.2.2.2.2.2.2.2.2.2.2))⟩ (fun hHeld => ?_)
     clear hK K;refine nP (some 90) ?_;refine pP 24 (some 91) ?_;refine pP 25 (some 92) ?_
     refine done_ (by kernel_rfl) ?_
     
     --END11c
     have hB6:=Q0j (Q0j (Q2k hB4) hb5) hb6
     have hg6:=Q1p (Q1p (Q0d hg4) hb5) hb6
     have hW6:=Q0j hB3 hB6
     clear s0 s1 s2 p0 p1 p2 q0 q1 q2 u0 u1 u2 v0 v1 v2 hg4 hB4 hW4 hb5 hb6 o1 o2
     have HT:=AM (show fin1 a i k same p=((same&&(decide (k=i+1)&&Gr.eqP p (pa a k))) || (same&&(decide (i=k+1)&&Gr.eqP p (pa a i)))) from rfl)
     go_upto_region 12 with (fail)
     go_cut [124] (fun v wr=>v=.bool (fin1 a i k same p)∧wr.heap[g4]? = some (.cells #[.int .i64 p.f0,.int .i64 p.f1,.int .i64 p.f2] 27 (0,0))∧Below w.heap.size w wr)
     case first=>as_aux_lemma =>
      have s0:w6.cell? ⟨g4,0,none⟩=some (.int .i64 p.f0):=(Q0v hg6 0).trans rfl
      have s1:w6.cell? ⟨g4,1,none⟩=some (.int .i64 p.f1):=(Q0v hg6 1).trans rfl
      have s2:w6.cell? ⟨g4,2,none⟩=some (.int .i64 p.f2):=(Q0v hg6 2).trans rfl
      have HG:=AM (show w6.drew.heap[g4]? = some (.cells #[.int .i64 p.f0,.int .i64 p.f1,.int .i64 p.f2] 27 (0,0))∧Below w.heap.size w w6.drew from ⟨Q0d hg6,Q2k hW6⟩)
      clear hg6 hB6
      cases same with
      | false =>
       have HV:Aside0 (fin1 a i k false p=false):=⟨by rw [HT.out];rfl⟩
       --REGION12A
       refine sP 32 (S:=fun w'=>w'.cell? ⟨g4,0,none⟩=some (.int .i64 p.f0)∧w'.cell? ⟨g4,1,none⟩=some (.int .i64 p.f1)∧w'.cell? ⟨g4,2,none⟩=some (.int .i64 p.f2)) (ds:=[]) ⟨s0,s1,s2⟩ fun hHeld => ?_
       refine pP 0 (some 93) ?_;refine pP 1 (some 94) ?_;refine uP 2 (some 95) ?_;refine uP 3 (some 96) ?_;refine uP 4 (some 97) ?_;refine uP 5 (some 98) ?_;refine pP 6 (some 99) ?_;refine pP 7 (some 100) ?_;refine uP 8 (some 101) ?_;refine uP 9 (some 102) ?_;refine uP 10 (some 103) ?_;refine uP 11 (some 104) ?_;refine uP 12 (some 105) ?_;refine uP 13 (some 106) ?_;refine pP 14 (some 107) ?_;refine pP 15 (some 108) ?_;refine pP 16 (some 109) ?_;refine pP 17 (some 110) ?_;refine uP 18 (some 111) ?_;refine uP 19 (some 112) ?_;refine uP 20 (some 113) ?_;refine uP 21 (some 114) ?_;refine pP 22 (some 115) ?_;refine pP 23 (some 116) ?_;refine uP 24 (some 117) ?_;refine uP 25 (some 118) ?_;refine uP 26 (some 119) ?_;refine uP 27 (some 120) ?_;refine uP 28 (some 121) ?_;refine uP 29 (some 122) ?_;refine pP 30 (some 123) ?_;refine pP 31 (some 124) ?_
       refine done_ (by kernel_rfl) ?_
       
       --END12A
       go_wp2
       go_meet
       case rel=>exact ⟨by rw [HV.out],HG.out.1,HG.out.2⟩
      | true =>
       by_cases hki:k=i+1
       ·have hkb:((k:Int)==(i:Int)+1)=true:=beq_iff_eq.2 (by omega)
        have hib:((i:Int)==(k:Int)+1)=false:=beq_eq_false_iff_ne.2 (by omega)
        have k4:(k:Int)<(a.length:Int):=by omega
        obtain ⟨x0,x1,x2⟩:=HCA.out w6 hW6 k (by omega)
        have HV:Aside0 (fin1 a i k true p=Gr.eqP p (pa a k)):=⟨by rw [HT.out,decide_eq_true hki,decide_eq_false (show ¬ i=k+1 by omega)];cases Gr.eqP p (pa a k)<;>rfl⟩
        have HE:Aside0 (Gr.eqP p (pa a k)=(p.f0==(pa a k).f0&&(p.f1==(pa a k).f1&&p.f2==(pa a k).f2))):=⟨rfl⟩
        clear hki
        generalize pa a k=x at x0 x1 x2 HV HE
        cases he:Gr.eqP p x with
        | true =>
         have hf:(p.f0==x.f0&&(p.f1==x.f1&&p.f2==x.f2))=true:=by rw [← HE.out];exact he
         have HV2:Aside0 (fin1 a i k true p=true):=⟨by rw [HV.out,he]⟩
         clear he
         --REGION12B
         refine sP 32 (S:=fun w'=>w'.cell? ⟨g4,0,none⟩=some (.int .i64 p.f0)∧w'.cell? ⟨g4,1,none⟩=some (.int .i64 p.f1)∧w'.cell? ⟨g4,2,none⟩=some (.int .i64 p.f2)∧w'.cell? (ad.add (k*3))=some (.int .i64 (x).f0)∧w'.cell? ⟨(ad.add (k*3)).block,(ad.add (k*3)).off+1,none⟩=some (.int .i64 (x).f1)∧w'.cell? ⟨(ad.add (k*3)).block,(ad.add (k*3)).off+2,none⟩=some (.int .i64 (x).f2)) (ds:=[]) ⟨s0,s1,s2,x0,x1,x2⟩ fun hHeld => ?_
         refine pP 0 (some 93) ?_;refine pP 1 (some 94) ?_;refine pP 2 (some 95) ?_;refine pP 3 (some 96) ?_;refine pP 4 (some 97) ?_;refine pP 5 (some 98) ?_;refine pP 6 (some 99) ?_;refine pP 7 (some 100) ?_;refine pP 9 (some 102) ?_;refine pP 10 (some 103) ?_;refine pP 11 (some 104) ?_;refine tP 8 (some 101) hHeld ?_;refine tP 12 (some 105) hHeld ?_;refine pP 13 (some 106) ?_;refine pP 14 (some 107) ?_;refine pP 15 (some 108) ?_;refine uP 16 (some 109) ?_;refine uP 17 (some 110) ?_;refine uP 18 (some 111) ?_;refine uP 19 (some 112) ?_;refine uP 20 (some 113) ?_;refine uP 21 (some 114) ?_;refine uP 22 (some 115) ?_;refine uP 23 (some 116) ?_;refine uP 24 (some 117) ?_;refine uP 25 (some 118) ?_;refine uP 26 (some 119) ?_;refine uP 27 (some 120) ?_;refine uP 28 (some 121) ?_;refine uP 29 (some 122) ?_;refine uP 30 (some 123) ?_;refine pP 31 (some 124) ?_
         refine done_ (by kernel_rfl) ?_
         
         --END12B
         go_wp2
         go_meet
         case rel=>exact ⟨by rw [HV2.out],HG.out.1,HG.out.2⟩
        | false =>
         have hf:(p.f0==x.f0&&(p.f1==x.f1&&p.f2==x.f2))=false:=by rw [← HE.out];exact he
         have HV2:Aside0 (fin1 a i k true p=false):=⟨by rw [HV.out,he]⟩
         clear he
         --REGION12b
         refine sP 32 (S:=fun w'=>w'.cell? ⟨g4,0,none⟩=some (.int .i64 p.f0)∧w'.cell? ⟨g4,1,none⟩=some (.int .i64 p.f1)∧w'.cell? ⟨g4,2,none⟩=some (.int .i64 p.f2)∧w'.cell? (ad.add (k*3))=some (.int .i64 (x).f0)∧w'.cell? ⟨(ad.add (k*3)).block,(ad.add (k*3)).off+1,none⟩=some (.int .i64 (x).f1)∧w'.cell? ⟨(ad.add (k*3)).block,(ad.add (k*3)).off+2,none⟩=some (.int .i64 (x).f2)) (ds:=[]) ⟨s0,s1,s2,x0,x1,x2⟩ fun hHeld => ?_
         refine pP 0 (some 93) ?_;refine pP 1 (some 94) ?_;refine pP 2 (some 95) ?_;refine pP 3 (some 96) ?_;refine pP 4 (some 97) ?_;refine pP 5 (some 98) ?_;refine pP 6 (some 99) ?_;refine pP 7 (some 100) ?_;refine pP 9 (some 102) ?_;refine pP 10 (some 103) ?_;refine pP 11 (some 104) ?_;refine tP 8 (some 101) hHeld ?_;refine tP 12 (some 105) hHeld ?_;refine pP 13 (some 106) ?_;refine pP 14 (some 107) ?_;refine pP 15 (some 108) ?_;refine pP 16 (some 109) ?_;refine pP 17 (some 110) ?_;refine pP 18 (some 111) ?_;refine pP 19 (some 112) ?_;refine pP 20 (some 113) ?_;refine pP 21 (some 114) ?_;refine pP 22 (some 115) ?_;refine pP 23 (some 116) ?_;refine uP 24 (some 117) ?_;refine uP 25 (some 118) ?_;refine uP 26 (some 119) ?_;refine uP 27 (some 120) ?_;refine uP 28 (some 121) ?_;refine uP 29 (some 122) ?_;refine pP 30 (some 123) ?_;refine pP 31 (some 124) ?_
         refine done_ (by kernel_rfl) ?_
         
         --END12b
         go_wp2
         go_meet
         case rel=>exact ⟨by rw [HV2.out],HG.out.1,HG.out.2⟩
       ·have hkb:((k:Int)==(i:Int)+1)=false:=beq_eq_false_iff_ne.2 (by omega)
        by_cases hik:i=k+1
        ·have hib:((i:Int)==(k:Int)+1)=true:=beq_iff_eq.2 (by omega)
         obtain ⟨p0,p1,p2⟩:=HCA.out w6 hW6 i (by omega)
         have HV:Aside0 (fin1 a i k true p=Gr.eqP p (pa a i)):=⟨by rw [HT.out,decide_eq_false hki,decide_eq_true hik];cases Gr.eqP p (pa a i)<;>rfl⟩
         have HE:Aside0 (Gr.eqP p (pa a i)=(p.f0==(pa a i).f0&&(p.f1==(pa a i).f1&&p.f2==(pa a i).f2))):=⟨rfl⟩
         clear hki hik
         --REGION12C
         refine sP 32 (S:=fun w'=>w'.cell? ⟨g4,0,none⟩=some (.int .i64 p.f0)∧w'.cell? ⟨g4,1,none⟩=some (.int .i64 p.f1)∧w'.cell? ⟨g4,2,none⟩=some (.int .i64 p.f2)∧w'.cell? (ad.add (i*3))=some (.int .i64 (pa a i).f0)∧w'.cell? ⟨(ad.add (i*3)).block,(ad.add (i*3)).off+1,none⟩=some (.int .i64 (pa a i).f1)∧w'.cell? ⟨(ad.add (i*3)).block,(ad.add (i*3)).off+2,none⟩=some (.int .i64 (pa a i).f2)) (ds:=[]) ⟨s0,s1,s2,p0,p1,p2⟩ fun hHeld => ?_
         refine pP 0 (some 93) ?_;refine pP 1 (some 94) ?_;refine pP 2 (some 95) ?_;refine pP 3 (some 96) ?_;refine pP 4 (some 97) ?_;refine pP 5 (some 98) ?_;refine pP 6 (some 99) ?_;refine pP 7 (some 100) ?_;refine uP 8 (some 101) ?_;refine uP 9 (some 102) ?_;refine uP 10 (some 103) ?_;refine uP 11 (some 104) ?_;refine uP 12 (some 105) ?_;refine uP 13 (some 106) ?_;refine pP 14 (some 107) ?_;refine pP 15 (some 108) ?_;refine pP 16 (some 109) ?_;refine pP 17 (some 110) ?_;refine pP 18 (some 111) ?_;refine pP 19 (some 112) ?_;refine pP 20 (some 113) ?_;refine pP 21 (some 114) ?_;refine pP 22 (some 115) ?_;refine pP 23 (some 116) ?_;refine pP 25 (some 118) ?_;refine pP 26 (some 119) ?_;refine pP 27 (some 120) ?_;refine tP 24 (some 117) hHeld ?_;refine tP 28 (some 121) hHeld ?_;refine pP 29 (some 122) ?_;refine pP 30 (some 123) ?_;refine pP 31 (some 124) ?_
         refine done_ (by kernel_rfl) ?_
         
         --END12C
         go_wp2
         go_meet
         case rel=>exact ⟨by rw [HV.out,HE.out],HG.out.1,HG.out.2⟩
        ·have hib:((i:Int)==(k:Int)+1)=false:=beq_eq_false_iff_ne.2 (by omega)
         have HV:Aside0 (fin1 a i k true p=false):=⟨by rw [HT.out,decide_eq_false hki,decide_eq_false hik];rfl⟩
         clear hki hik
         --REGION12D
         refine sP 32 (S:=fun w'=>w'.cell? ⟨g4,0,none⟩=some (.int .i64 p.f0)∧w'.cell? ⟨g4,1,none⟩=some (.int .i64 p.f1)∧w'.cell? ⟨g4,2,none⟩=some (.int .i64 p.f2)) (ds:=[]) ⟨s0,s1,s2⟩ fun hHeld => ?_
         refine pP 0 (some 93) ?_;refine pP 1 (some 94) ?_;refine pP 2 (some 95) ?_;refine pP 3 (some 96) ?_;refine pP 4 (some 97) ?_;refine pP 5 (some 98) ?_;refine pP 6 (some 99) ?_;refine pP 7 (some 100) ?_;refine uP 8 (some 101) ?_;refine uP 9 (some 102) ?_;refine uP 10 (some 103) ?_;refine uP 11 (some 104) ?_;refine uP 12 (some 105) ?_;refine uP 13 (some 106) ?_;refine pP 14 (some 107) ?_;refine pP 15 (some 108) ?_;refine pP 16 (some 109) ?_;refine pP 17 (some 110) ?_;refine pP 18 (some 111) ?_;refine pP 19 (some 112) ?_;refine pP 20 (some 113) ?_;refine pP 21 (some 114) ?_;refine pP 22 (some 115) ?_;refine pP 23 (some 116) ?_;refine uP 24 (some 117) ?_;refine uP 25 (some 118) ?_;refine uP 26 (some 119) ?_;refine uP 27 (some 120) ?_;refine uP 28 (some 121) ?_;refine uP 29 (some 122) ?_;refine pP 30 (some 123) ?_;refine pP 31 (some 124) ?_
         refine done_ (by kernel_rfl) ?_
         
         --END12D
         go_wp2
         go_meet
         case rel=>exact ⟨by rw [HV.out],HG.out.1,HG.out.2⟩
     case rest =>
      clear hg6 hB6 hW6 HT
      obtain ⟨rfl,hg7,hB7⟩:=hcut
      have HFC:=AM (show finC a i b k same p=(fin1 a i k same p || (endA a i p&&endA b k p)) from rfl)
      cases hf1:fin1 a i k same p with
      | true =>
       have hR:R=true:=by rw [HQ2.out,HFC.out,hf1,Bool.true_or]
       subst hR
       clear hf1
       go_wp2
       go_ret
       exact ⟨rfl,hB7⟩
      | false =>
       have HR7:Aside0 (R=(endA a i p&&endA b k p)):=⟨by rw [HQ2.out,HFC.out,hf1,Bool.false_or]⟩
       clear hf1 HFC HQ2
       have HEA:=AM (show endA a i p=((decide (i=0)&&Gr.eqP p (pa a 0)) || (decide (i+2=a.length)&&Gr.eqP p (pa a (a.length - 1)))) from rfl)
       have HEB:=AM (show endA b k p=((decide (k=0)&&Gr.eqP p (pa b 0)) || (decide (k+2=b.length)&&Gr.eqP p (pa b (b.length - 1)))) from rfl)
       generalize endA a i p=ea at HEA HR7
       generalize endA b k p=eb at HEB HR7
       go_upto_region 14 with (fail)
       go_cut [15] (fun v wr=>v=.bool ea∧wr.heap[g4]? = some (.cells #[.int .i64 p.f0,.int .i64 p.f1,.int .i64 p.f2] 27 (0,0))∧Below w.heap.size w wr)
       case first=>as_aux_lemma =>
        have s0:wc.cell? ⟨g4,0,none⟩=some (.int .i64 p.f0):=(Q0v hg7 0).trans rfl
        have s1:wc.cell? ⟨g4,1,none⟩=some (.int .i64 p.f1):=(Q0v hg7 1).trans rfl
        have s2:wc.cell? ⟨g4,2,none⟩=some (.int .i64 p.f2):=(Q0v hg7 2).trans rfl
        have HG:=AM (show wc.drew.heap[g4]? = some (.cells #[.int .i64 p.f0,.int .i64 p.f1,.int .i64 p.f2] 27 (0,0))∧Below w.heap.size w wc.drew from ⟨Q0d hg7,Q2k hB7⟩)
        obtain ⟨x0,x1,x2⟩:=(H0.out wc hB7).1
        obtain ⟨y0,y1,y2⟩:=HCA.out wc hB7 (a.length - 1) (by omega)
        obtain ⟨l1,l2,l3⟩:=Qhq a.length (by omega) (by omega)
        have l4:(0:Int)≤(a.length:Int) - 1:=by omega
        have l5:(a.length:Int) - 1<(a.length:Int):=by omega
        have z4:(0:Int)<(a.length:Int):=by omega
        have z5:0<a.length:=by omega
        have z6:(1:Int)≤(a.length:Int):=by omega
        have HX:Aside0 (Gr.eqP p (pa a 0)=(p.f0==(pa a 0).f0&&(p.f1==(pa a 0).f1&&p.f2==(pa a 0).f2))):=⟨rfl⟩
        have HY:Aside0 (Gr.eqP p (pa a (a.length - 1))=(p.f0==(pa a (a.length - 1)).f0&&(p.f1==(pa a (a.length - 1)).f1&&p.f2==(pa a (a.length - 1)).f2))):=⟨rfl⟩
        generalize pa a 0=x at x0 x1 x2 HX HEA
        generalize pa a (a.length - 1)=y at y0 y1 y2 HY HEA
        have e2:decide (i+2=a.length)=((i:Int)==(a.length:Int) - 2):=by
         rw [Bool.eq_iff_iff,decide_eq_true_iff,beq_iff_eq];omega
        have E2:=AM e2
        clear e2
        by_cases h0:i=0
        ·have hb0:((i:Int)==0)=true:=beq_iff_eq.2 (by omega)
         have HV:Aside0 (ea=(Gr.eqP p x || (((i:Int)==(a.length:Int) - 2)&&Gr.eqP p y))):=⟨by rw [HEA.out,decide_eq_true h0,Bool.true_and,E2.out]⟩
         clear h0
         cases hx:Gr.eqP p x with
         | true =>
          have hf:(p.f0==x.f0&&(p.f1==x.f1&&p.f2==x.f2))=true:=by rw [← HX.out];exact hx
          have HV2:Aside0 (ea=true):=⟨by rw [HV.out,hx,Bool.true_or]⟩
          clear hx
          --REGION141
          refine sP 27 (S:=fun w'=>w'.cell? ⟨g4,0,none⟩=some (.int .i64 p.f0)∧w'.cell? ⟨g4,1,none⟩=some (.int .i64 p.f1)∧w'.cell? ⟨g4,2,none⟩=some (.int .i64 p.f2)∧w'.cell? ad=some (.int .i64 x.f0)∧w'.cell? ⟨ad.block,ad.off+1,none⟩=some (.int .i64 x.f1)∧w'.cell? ⟨ad.block,ad.off+2,none⟩=some (.int .i64 x.f2)) (ds:=[]) ⟨s0,s1,s2,x0,x1,x2⟩ fun hHeld => ?_
          refine pP 0 (some 125) ?_;refine pP 1 (some 126) ?_;refine pP 2 (some 127) ?_;refine pP 4 (some 129) ?_;refine pP 5 (some 130) ?_;refine tP 3 (some 128) hHeld ?_;refine tP 6 (some 131) hHeld ?_;refine pP 7 (some 132) ?_;refine pP 8 (some 133) ?_;refine pP 9 (some 134) ?_;refine uP 10 (some 135) ?_;refine uP 11 (some 136) ?_;refine uP 12 (some 137) ?_;refine uP 13 (some 138) ?_;refine uP 14 (some 139) ?_;refine uP 15 (some 140) ?_;refine uP 16 (some 141) ?_;refine uP 17 (some 142) ?_;refine uP 18 (some 143) ?_;refine uP 19 (some 144) ?_;refine uP 20 (some 145) ?_;refine uP 21 (some 146) ?_;refine uP 22 (some 147) ?_;refine uP 23 (some 148) ?_;refine uP 24 (some 149) ?_;refine pP 25 (some 150) ?_;refine pP 26 (some 15) ?_
          refine done_ (by kernel_rfl) ?_
          
          --END141
          go_wp2
          go_meet
          case rel=>exact ⟨by rw [HV2.out],HG.out.1,HG.out.2⟩
         | false =>
          have hf:(p.f0==x.f0&&(p.f1==x.f1&&p.f2==x.f2))=false:=by rw [← HX.out];exact hx
          cases h2:((i:Int)==(a.length:Int) - 2) with
          | true =>
           have HV2:Aside0 (ea=Gr.eqP p y):=⟨by rw [HV.out,hx,h2];cases Gr.eqP p y<;>rfl⟩
           clear hx
           --REGION142
           refine sP 27 (S:=fun w'=>w'.cell? ⟨g4,0,none⟩=some (.int .i64 p.f0)∧w'.cell? ⟨g4,1,none⟩=some (.int .i64 p.f1)∧w'.cell? ⟨g4,2,none⟩=some (.int .i64 p.f2)∧w'.cell? ad=some (.int .i64 x.f0)∧w'.cell? ⟨ad.block,ad.off+1,none⟩=some (.int .i64 x.f1)∧w'.cell? ⟨ad.block,ad.off+2,none⟩=some (.int .i64 x.f2)∧w'.cell? (ad.add ((a.length - 1)*3))=some (.int .i64 (y).f0)∧w'.cell? ⟨(ad.add ((a.length - 1)*3)).block,(ad.add ((a.length - 1)*3)).off+1,none⟩=some (.int .i64 (y).f1)∧w'.cell? ⟨(ad.add ((a.length - 1)*3)).block,(ad.add ((a.length - 1)*3)).off+2,none⟩=some (.int .i64 (y).f2)) (ds:=[]) ⟨s0,s1,s2,x0,x1,x2,y0,y1,y2⟩ fun hHeld => ?_
           refine pP 0 (some 125) ?_;refine pP 1 (some 126) ?_;refine pP 2 (some 127) ?_;refine pP 4 (some 129) ?_;refine pP 5 (some 130) ?_;refine tP 3 (some 128) hHeld ?_;refine tP 6 (some 131) hHeld ?_;refine pP 7 (some 132) ?_;refine pP 8 (some 133) ?_;refine pP 9 (some 134) ?_;refine pP 10 (some 135) ?_;refine pP 11 (some 136) ?_;refine pP 12 (some 137) ?_;refine pP 13 (some 138) ?_;refine pP 14 (some 139) ?_;refine pP 15 (some 140) ?_;refine pP 17 (some 142) ?_;refine pP 18 (some 143) ?_;refine pP 19 (some 144) ?_;refine pP 20 (some 145) ?_;refine pP 21 (some 146) ?_;refine tP 16 (some 141) hHeld ?_;refine tP 22 (some 147) hHeld ?_;refine pP 23 (some 148) ?_;refine pP 24 (some 149) ?_;refine pP 25 (some 150) ?_;refine pP 26 (some 15) ?_
           refine done_ (by kernel_rfl) ?_
           
           --END142
           go_wp2
           go_meet
           case rel=>exact ⟨by rw [HV2.out,HY.out],HG.out.1,HG.out.2⟩
          | false =>
           have HV2:Aside0 (ea=false):=⟨by rw [HV.out,hx,h2];rfl⟩
           clear hx
           --REGION143
           refine sP 27 (S:=fun w'=>w'.cell? ⟨g4,0,none⟩=some (.int .i64 p.f0)∧w'.cell? ⟨g4,1,none⟩=some (.int .i64 p.f1)∧w'.cell? ⟨g4,2,none⟩=some (.int .i64 p.f2)∧w'.cell? ad=some (.int .i64 x.f0)∧w'.cell? ⟨ad.block,ad.off+1,none⟩=some (.int .i64 x.f1)∧w'.cell? ⟨ad.block,ad.off+2,none⟩=some (.int .i64 x.f2)) (ds:=[]) ⟨s0,s1,s2,x0,x1,x2⟩ fun hHeld => ?_
           refine pP 0 (some 125) ?_;refine pP 1 (some 126) ?_;refine pP 2 (some 127) ?_;refine pP 4 (some 129) ?_;refine pP 5 (some 130) ?_;refine tP 3 (some 128) hHeld ?_;refine tP 6 (some 131) hHeld ?_;refine pP 7 (some 132) ?_;refine pP 8 (some 133) ?_;refine pP 9 (some 134) ?_;refine pP 10 (some 135) ?_;refine pP 11 (some 136) ?_;refine pP 12 (some 137) ?_;refine pP 13 (some 138) ?_;refine pP 14 (some 139) ?_;refine pP 15 (some 140) ?_;refine uP 16 (some 141) ?_;refine uP 17 (some 142) ?_;refine uP 18 (some 143) ?_;refine uP 19 (some 144) ?_;refine uP 20 (some 145) ?_;refine uP 21 (some 146) ?_;refine uP 22 (some 147) ?_;refine uP 23 (some 148) ?_;refine pP 24 (some 149) ?_;refine pP 25 (some 150) ?_;refine pP 26 (some 15) ?_
           refine done_ (by kernel_rfl) ?_
           
           --END143
           go_wp2
           go_meet
           case rel=>exact ⟨by rw [HV2.out],HG.out.1,HG.out.2⟩
        ·have hb0:((i:Int)==0)=false:=beq_eq_false_iff_ne.2 (by omega)
         have HV:Aside0 (ea=(((i:Int)==(a.length:Int) - 2)&&Gr.eqP p y)):=⟨by rw [HEA.out,decide_eq_false h0,Bool.false_and,Bool.false_or,E2.out]⟩
         clear h0
         cases h2:((i:Int)==(a.length:Int) - 2) with
         | true =>
          have HV2:Aside0 (ea=Gr.eqP p y):=⟨by rw [HV.out,h2,Bool.true_and]⟩
          --REGION144
          refine sP 27 (S:=fun w'=>w'.cell? ⟨g4,0,none⟩=some (.int .i64 p.f0)∧w'.cell? ⟨g4,1,none⟩=some (.int .i64 p.f1)∧w'.cell? ⟨g4,2,none⟩=some (.int .i64 p.f2)∧w'.cell? (ad.add ((a.length - 1)*3))=some (.int .i64 (y).f0)∧w'.cell? ⟨(ad.add ((a.length - 1)*3)).block,(ad.add ((a.length - 1)*3)).off+1,none⟩=some (.int .i64 (y).f1)∧w'.cell? ⟨(ad.add ((a.length - 1)*3)).block,(ad.add ((a.length - 1)*3)).off+2,none⟩=some (.int .i64 (y).f2)) (ds:=[]) ⟨s0,s1,s2,y0,y1,y2⟩ fun hHeld => ?_
          refine pP 0 (some 125) ?_;refine pP 1 (some 126) ?_;refine pP 2 (some 127) ?_;refine uP 3 (some 128) ?_;refine uP 4 (some 129) ?_;refine uP 5 (some 130) ?_;refine uP 6 (some 131) ?_;refine uP 7 (some 132) ?_;refine pP 8 (some 133) ?_;refine pP 9 (some 134) ?_;refine pP 10 (some 135) ?_;refine pP 11 (some 136) ?_;refine pP 12 (some 137) ?_;refine pP 13 (some 138) ?_;refine pP 14 (some 139) ?_;refine pP 15 (some 140) ?_;refine pP 17 (some 142) ?_;refine pP 18 (some 143) ?_;refine pP 19 (some 144) ?_;refine pP 20 (some 145) ?_;refine pP 21 (some 146) ?_;refine tP 16 (some 141) hHeld ?_;refine tP 22 (some 147) hHeld ?_;refine pP 23 (some 148) ?_;refine pP 24 (some 149) ?_;refine pP 25 (some 150) ?_;refine pP 26 (some 15) ?_
          refine done_ (by kernel_rfl) ?_
          
          --END144
          go_wp2
          go_meet
          case rel=>exact ⟨by rw [HV2.out,HY.out],HG.out.1,HG.out.2⟩
         | false =>
          have HV2:Aside0 (ea=false):=⟨by rw [HV.out,h2,Bool.false_and]⟩
          --REGION145
          refine sP 27 (S:=fun w'=>w'.cell? ⟨g4,0,none⟩=some (.int .i64 p.f0)∧w'.cell? ⟨g4,1,none⟩=some (.int .i64 p.f1)∧w'.cell? ⟨g4,2,none⟩=some (.int .i64 p.f2)) (ds:=[]) ⟨s0,s1,s2⟩ fun hHeld => ?_
          refine pP 0 (some 125) ?_;refine pP 1 (some 126) ?_;refine pP 2 (some 127) ?_;refine uP 3 (some 128) ?_;refine uP 4 (some 129) ?_;refine uP 5 (some 130) ?_;refine uP 6 (some 131) ?_;refine uP 7 (some 132) ?_;refine pP 8 (some 133) ?_;refine pP 9 (some 134) ?_;refine pP 10 (some 135) ?_;refine pP 11 (some 136) ?_;refine pP 12 (some 137) ?_;refine pP 13 (some 138) ?_;refine pP 14 (some 139) ?_;refine pP 15 (some 140) ?_;refine uP 16 (some 141) ?_;refine uP 17 (some 142) ?_;refine uP 18 (some 143) ?_;refine uP 19 (some 144) ?_;refine uP 20 (some 145) ?_;refine uP 21 (some 146) ?_;refine uP 22 (some 147) ?_;refine uP 23 (some 148) ?_;refine pP 24 (some 149) ?_;refine pP 25 (some 150) ?_;refine pP 26 (some 15) ?_
          refine done_ (by kernel_rfl) ?_
          
          --END145
          go_wp2
          go_meet
          case rel=>exact ⟨by rw [HV2.out],HG.out.1,HG.out.2⟩
       case rest =>
        clear hg7 hB7 HEA
        obtain ⟨rfl,hg7,hB7⟩:=hcut
        go_upto_region 15 with (fail)
        go_cut [16] (fun v wr=>v=.bool eb∧Below w.heap.size w wr)
        case first=>as_aux_lemma =>
         have s0:wc.cell? ⟨g4,0,none⟩=some (.int .i64 p.f0):=(Q0v hg7 0).trans rfl
         have s1:wc.cell? ⟨g4,1,none⟩=some (.int .i64 p.f1):=(Q0v hg7 1).trans rfl
         have s2:wc.cell? ⟨g4,2,none⟩=some (.int .i64 p.f2):=(Q0v hg7 2).trans rfl
         have HG:=AM (show wc.drew.heap[g4]? = some (.cells #[.int .i64 p.f0,.int .i64 p.f1,.int .i64 p.f2] 27 (0,0))∧Below w.heap.size w wc.drew from ⟨Q0d hg7,Q2k hB7⟩)
         obtain ⟨x0,x1,x2⟩:=(H0.out wc hB7).2
         obtain ⟨y0,y1,y2⟩:=HCB.out wc hB7 (b.length - 1) (by omega)
         obtain ⟨l1,l2,l3⟩:=Qhq b.length (by omega) (by omega)
         have l4:(0:Int)≤(b.length:Int) - 1:=by omega
         have l5:(b.length:Int) - 1<(b.length:Int):=by omega
         have z4:(0:Int)<(b.length:Int):=by omega
         have z5:0<b.length:=by omega
         have z6:(1:Int)≤(b.length:Int):=by omega
         have HX:Aside0 (Gr.eqP p (pa b 0)=(p.f0==(pa b 0).f0&&(p.f1==(pa b 0).f1&&p.f2==(pa b 0).f2))):=⟨rfl⟩
         have HY:Aside0 (Gr.eqP p (pa b (b.length - 1))=(p.f0==(pa b (b.length - 1)).f0&&(p.f1==(pa b (b.length - 1)).f1&&p.f2==(pa b (b.length - 1)).f2))):=⟨rfl⟩
         generalize pa b 0=x at x0 x1 x2 HX HEB
         generalize pa b (b.length - 1)=y at y0 y1 y2 HY HEB
         have e2:decide (k+2=b.length)=((k:Int)==(b.length:Int) - 2):=by
          rw [Bool.eq_iff_iff,decide_eq_true_iff,beq_iff_eq];omega
         have E2:=AM e2
         clear e2
         by_cases h0:k=0
         ·have hb0:((k:Int)==0)=true:=beq_iff_eq.2 (by omega)
          have HV:Aside0 (eb=(Gr.eqP p x || (((k:Int)==(b.length:Int) - 2)&&Gr.eqP p y))):=⟨by rw [HEB.out,decide_eq_true h0,Bool.true_and,E2.out]⟩
          clear h0
          cases hx:Gr.eqP p x with
          | true =>
           have hf:(p.f0==x.f0&&(p.f1==x.f1&&p.f2==x.f2))=true:=by rw [← HX.out];exact hx
           have HV2:Aside0 (eb=true):=⟨by rw [HV.out,hx,Bool.true_or]⟩
           clear hx
           --REGION151
           refine sP 27 (S:=fun w'=>w'.cell? ⟨g4,0,none⟩=some (.int .i64 p.f0)∧w'.cell? ⟨g4,1,none⟩=some (.int .i64 p.f1)∧w'.cell? ⟨g4,2,none⟩=some (.int .i64 p.f2)∧w'.cell? bd=some (.int .i64 x.f0)∧w'.cell? ⟨bd.block,bd.off+1,none⟩=some (.int .i64 x.f1)∧w'.cell? ⟨bd.block,bd.off+2,none⟩=some (.int .i64 x.f2)) (ds:=[]) ⟨s0,s1,s2,x0,x1,x2⟩ fun hHeld => ?_
           refine pP 0 (some 151) ?_;refine pP 1 (some 152) ?_;refine pP 2 (some 153) ?_;refine pP 4 (some 155) ?_;refine pP 5 (some 156) ?_;refine tP 3 (some 154) hHeld ?_;refine tP 6 (some 157) hHeld ?_;refine pP 7 (some 158) ?_;refine pP 8 (some 159) ?_;refine pP 9 (some 160) ?_;refine uP 10 (some 161) ?_;refine uP 11 (some 162) ?_;refine uP 12 (some 163) ?_;refine uP 13 (some 164) ?_;refine uP 14 (some 165) ?_;refine uP 15 (some 166) ?_;refine uP 16 (some 167) ?_;refine uP 17 (some 168) ?_;refine uP 18 (some 169) ?_;refine uP 19 (some 170) ?_;refine uP 20 (some 171) ?_;refine uP 21 (some 172) ?_;refine uP 22 (some 173) ?_;refine uP 23 (some 174) ?_;refine uP 24 (some 175) ?_;refine pP 25 (some 176) ?_;refine pP 26 (some 16) ?_
           refine done_ (by kernel_rfl) ?_
           
           --END151
           go_wp2
           go_meet
           case rel=>exact ⟨by rw [HV2.out],HG.out.2⟩
          | false =>
           have hf:(p.f0==x.f0&&(p.f1==x.f1&&p.f2==x.f2))=false:=by rw [← HX.out];exact hx
           cases h2:((k:Int)==(b.length:Int) - 2) with
           | true =>
            have HV2:Aside0 (eb=Gr.eqP p y):=⟨by rw [HV.out,hx,h2];cases Gr.eqP p y<;>rfl⟩
            clear hx
            --REGION152
            refine sP 27 (S:=fun w'=>w'.cell? ⟨g4,0,none⟩=some (.int .i64 p.f0)∧w'.cell? ⟨g4,1,none⟩=some (.int .i64 p.f1)∧w'.cell? ⟨g4,2,none⟩=some (.int .i64 p.f2)∧w'.cell? bd=some (.int .i64 x.f0)∧w'.cell? ⟨bd.block,bd.off+1,none⟩=some (.int .i64 x.f1)∧w'.cell? ⟨bd.block,bd.off+2,none⟩=some (.int .i64 x.f2)∧w'.cell? (bd.add ((b.length - 1)*3))=some (.int .i64 (y).f0)∧w'.cell? ⟨(bd.add ((b.length - 1)*3)).block,(bd.add ((b.length - 1)*3)).off+1,none⟩=some (.int .i64 (y).f1)∧w'.cell? ⟨(bd.add ((b.length - 1)*3)).block,(bd.add ((b.length - 1)*3)).off+2,none⟩=some (.int .i64 (y).f2)) (ds:=[]) ⟨s0,s1,s2,x0,x1,x2,y0,y1,y2⟩ fun hHeld => ?_
            refine pP 0 (some 151) ?_;refine pP 1 (some 152) ?_;refine pP 2 (some 153) ?_;refine pP 4 (some 155) ?_;refine pP 5 (some 156) ?_;refine tP 3 (some 154) hHeld ?_;refine tP 6 (some 157) hHeld ?_;refine pP 7 (some 158) ?_;refine pP 8 (some 159) ?_;refine pP 9 (some 160) ?_;refine pP 10 (some 161) ?_;refine pP 11 (some 162) ?_;refine pP 12 (some 163) ?_;refine pP 13 (some 164) ?_;refine pP 14 (some 165) ?_;refine pP 15 (some 166) ?_;refine pP 17 (some 168) ?_;refine pP 18 (some 169) ?_;refine pP 19 (some 170) ?_;refine pP 20 (some 171) ?_;refine pP 21 (some 172) ?_;refine tP 16 (some 167) hHeld ?_;refine tP 22 (some 173) hHeld ?_;refine pP 23 (some 174) ?_;refine pP 24 (some 175) ?_;refine pP 25 (some 176) ?_;refine pP 26 (some 16) ?_
            refine done_ (by kernel_rfl) ?_
            
            --END152
            go_wp2
            go_meet
            case rel=>exact ⟨by rw [HV2.out,HY.out],HG.out.2⟩
           | false =>
            have HV2:Aside0 (eb=false):=⟨by rw [HV.out,hx,h2];rfl⟩
            clear hx
            --REGION153
            refine sP 27 (S:=fun w'=>w'.cell? ⟨g4,0,none⟩=some (.int .i64 p.f0)∧w'.cell? ⟨g4,1,none⟩=some (.int .i64 p.f1)∧w'.cell? ⟨g4,2,none⟩=some (.int .i64 p.f2)∧w'.cell? bd=some (.int .i64 x.f0)∧w'.cell? ⟨bd.block,bd.off+1,none⟩=some (.int .i64 x.f1)∧w'.cell? ⟨bd.block,bd.off+2,none⟩=some (.int .i64 x.f2)) (ds:=[]) ⟨s0,s1,s2,x0,x1,x2⟩ fun hHeld => ?_
            refine pP 0 (some 151) ?_;refine pP 1 (some 152) ?_;refine pP 2 (some 153) ?_;refine pP 4 (some 155) ?_;refine pP 5 (some 156) ?_;refine tP 3 (some 154) hHeld ?_;refine tP 6 (some 157) hHeld ?_;refine pP 7 (some 158) ?_;refine pP 8 (some 159) ?_;refine pP 9 (some 160) ?_;refine pP 10 (some 161) ?_;refine pP 11 (some 162) ?_;refine pP 12 (some 163) ?_;refine pP 13 (some 164) ?_;refine pP 14 (some 165) ?_;refine pP 15 (some 166) ?_;refine uP 16 (some 167) ?_;refine uP 17 (some 168) ?_;refine uP 18 (some 169) ?_;refine uP 19 (some 170) ?_;refine uP 20 (some 171) ?_;refine uP 21 (some 172) ?_;refine uP 22 (some 173) ?_;refine uP 23 (some 174) ?_;refine pP 24 (some 175) ?_;refine pP 25 (some 176) ?_;refine pP 26 (some 16) ?_
            refine done_ (by kernel_rfl) ?_
            
            --END153
            go_wp2
            go_meet
            case rel=>exact ⟨by rw [HV2.out],HG.out.2⟩
         ·have hb0:((k:Int)==0)=false:=beq_eq_false_iff_ne.2 (by omega)
          have HV:Aside0 (eb=(((k:Int)==(b.length:Int) - 2)&&Gr.eqP p y)):=⟨by rw [HEB.out,decide_eq_false h0,Bool.false_and,Bool.false_or,E2.out]⟩
          clear h0
          cases h2:((k:Int)==(b.length:Int) - 2) with
          | true =>
           have HV2:Aside0 (eb=Gr.eqP p y):=⟨by rw [HV.out,h2,Bool.true_and]⟩
           --REGION154
           refine sP 27 (S:=fun w'=>w'.cell? ⟨g4,0,none⟩=some (.int .i64 p.f0)∧w'.cell? ⟨g4,1,none⟩=some (.int .i64 p.f1)∧w'.cell? ⟨g4,2,none⟩=some (.int .i64 p.f2)∧w'.cell? (bd.add ((b.length - 1)*3))=some (.int .i64 (y).f0)∧w'.cell? ⟨(bd.add ((b.length - 1)*3)).block,(bd.add ((b.length - 1)*3)).off+1,none⟩=some (.int .i64 (y).f1)∧w'.cell? ⟨(bd.add ((b.length - 1)*3)).block,(bd.add ((b.length - 1)*3)).off+2,none⟩=some (.int .i64 (y).f2)) (ds:=[]) ⟨s0,s1,s2,y0,y1,y2⟩ fun hHeld => ?_
           refine pP 0 (some 151) ?_;refine pP 1 (some 152) ?_;refine pP 2 (some 153) ?_;refine uP 3 (some 154) ?_;refine uP 4 (some 155) ?_;refine uP 5 (some 156) ?_;refine uP 6 (some 157) ?_;refine uP 7 (some 158) ?_;refine pP 8 (some 159) ?_;refine pP 9 (some 160) ?_;refine pP 10 (some 161) ?_;refine pP 11 (some 162) ?_;refine pP 12 (some 163) ?_;refine pP 13 (some 164) ?_;refine pP 14 (some 165) ?_;refine pP 15 (some 166) ?_;refine pP 17 (some 168) ?_;refine pP 18 (some 169) ?_;refine pP 19 (some 170) ?_;refine pP 20 (some 171) ?_;refine pP 21 (some 172) ?_;refine tP 16 (some 167) hHeld ?_;refine tP 22 (some 173) hHeld ?_;refine pP 23 (some 174) ?_;refine pP 24 (some 175) ?_;refine pP 25 (some 176) ?_;refine pP 26 (some 16) ?_
           refine done_ (by kernel_rfl) ?_
           
           --END154
           go_wp2
           go_meet
           case rel=>exact ⟨by rw [HV2.out,HY.out],HG.out.2⟩
          | false =>
           have HV2:Aside0 (eb=false):=⟨by rw [HV.out,h2,Bool.false_and]⟩
           --REGION155
           refine sP 27 (S:=fun w'=>w'.cell? ⟨g4,0,none⟩=some (.int .i64 p.f0)∧w'.cell? ⟨g4,1,none⟩=some (.int .i64 p.f1)∧w'.cell? ⟨g4,2,none⟩=some (.int .i64 p.f2)) (ds:=[]) ⟨s0,s1,s2⟩ fun hHeld => ?_
           refine pP 0 (some 151) ?_;refine pP 1 (some 152) ?_;refine pP 2 (some 153) ?_;refine uP 3 (some 154) ?_;refine uP 4 (some 155) ?_;refine uP 5 (some 156) ?_;refine uP 6 (some 157) ?_;refine uP 7 (some 158) ?_;refine pP 8 (some 159) ?_;refine pP 9 (some 160) ?_;refine pP 10 (some 161) ?_;refine pP 11 (some 162) ?_;refine pP 12 (some 163) ?_;refine pP 13 (some 164) ?_;refine pP 14 (some 165) ?_;refine pP 15 (some 166) ?_;refine uP 16 (some 167) ?_;refine uP 17 (some 168) ?_;refine uP 18 (some 169) ?_;refine uP 19 (some 170) ?_;refine uP 20 (some 171) ?_;refine uP 21 (some 172) ?_;refine uP 22 (some 173) ?_;refine uP 23 (some 174) ?_;refine pP 24 (some 175) ?_;refine pP 25 (some 176) ?_;refine pP 26 (some 16) ?_
           refine done_ (by kernel_rfl) ?_
           
           --END155
           go_wp2
           go_meet
           case rel=>exact ⟨by rw [HV2.out],HG.out.2⟩
        case rest =>
         clear hg7 hB7 HEB
         obtain ⟨rfl,hB7⟩:=hcut
         have hR:R=(ea&&eb):=HR7.out
         subst hR
         cases ea<;>cases eb<;>(go_wp2;go_ret;exact ⟨rfl,hB7⟩)
  ·have hd:R=false:=by rw [HRj.out,List.drop_of_length_le (by rw [HEL.out];omega)];rfl
   subst hd
   have j1b:decide ((j:Int)<4)=false:=decide_eq_false (by omega)
   go_wp2
   go_ret
   exact ⟨rfl,Q0j hB3 hB⟩
end Go.Proofs.Ytbonkedecfjmdaa.Pl
