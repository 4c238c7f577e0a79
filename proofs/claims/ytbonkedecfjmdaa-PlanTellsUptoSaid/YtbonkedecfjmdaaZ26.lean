/- Whether a polygon fills: the values, and the program's walk. No condition. Whether all polygons fill: the values, and the program's walk. No condition. Whether all rings close: the values, and the walks of ring.Uses and plan.Closes. No condition. (printed by gen_kh.py) -/
import Derived.Test.YtbonkedecfjmdaaZ25
import Derived.Test.YtbonkedecfjmdaaZ17
import Derived.Test.YtbonkedecfjmdaaZ19
import Derived.Test.YtbonkedecfjmdaaZ16
import Derived.Test.YtbonkedecfjmdaaZ13
import Derived.Test.YtbonkedecfjmdaaZ2

namespace Go.Proofs.Ytbonkedecfjmdaa.Pl
set_option linter.unusedVariables false
set_option linter.unusedSimpArgs false
open Go Go.RowKit Go.Proofs.Ytbonkedecfjmdaa.P Go.Proofs.Ytbonkedecfjmdaa.G Go.Proofs.Ytbonkedecfjmdaa.WL Go.Proofs.YtbonkedecfjmdaaW.PrintWords Go.Proofs.YtbonkedecfjmdaaW.PrintLast Go.Proofs.YtbonkedecfjmdaaW.PrintMore
def wf64 (n:Int):Prop := -9223372036854775808≤n∧n≤9223372036854775807
structure Small (m:List (List Pt)) (r:List (List Int)):Prop where
 arcs:∀ x∈m,x.length≤20000
 rings:r.length≤20000
 refs:r.flatten.length≤20000
 wf:∀ x∈r,∀ n∈x,wf64 n
def ringAt (m:List (List Pt)) (r:List (List Int)) (k:Int):List Pt×Int:=if k<0∨k≥r.length then ([],2) else Gr.ptsV m [] (r.getD k.toNat [])
def signV (l:List Pt):Int:=cmp3 (off (areaV l)) (off 0)
def fillsL (m:List (List Pt)) (r:List (List Int)):List Pt→Bool→List Int→Bool
 | _,_,[]=>true
 | O,first,k :: t =>
  if (ringAt m r k).2≠0 then false
  else if first=true then (if signV (ringAt m r k).1≤0 then false else fillsL m r (ringAt m r k).1 false t)
  else if signV (ringAt m r k).1≥0 then false
  else if (ringAt m r k).1.any (fun p=>decide (inV p O<0))=true then false else fillsL m r O false t
def fillsV (m:List (List Pt)) (r:List (List Int)) (poly:List Int):Bool:=decide (0<poly.length)&&fillsL m r [] true poly
theorem Q3g (r:List (List Int)) (x:List Int) (h:x∈r):x.length≤r.flatten.length:=by
 induction r with
 | nil=>simp at h
 | cons y r ih =>
  rw [List.flatten_cons,List.length_append]
  rcases List.mem_cons.1 h with rfl|h
  ·omega
  ·have:=ih h;omega
theorem Q6r {m:List (List Pt)} {r:List (List Int)} (hs:Small m r) (i:Nat) (hi:i<r.length):r[i].length≤20000∧r[i].length*20000<5864062014805∧∀ n∈r[i],-9223372036854775808≤n∧n≤9223372036854775807:=by
 have h1:=Q3g r r[i] (List.getElem_mem hi)
 have h2:=hs.refs
 exact ⟨by omega,by omega,fun n hn=>hs.wf _ (List.getElem_mem hi) n hn⟩
theorem Q5r {m:List (List Pt)} {r:List (List Int)} (hs:Small m r) (p:List (List Int)) (k:Int):Ev (fun f=>Q1u.f f m r p k) (ringAt m r k):=by
 have hrl:=hs.rings
 unfold ringAt
 by_cases h0:k<0
 ·rw [if_pos (.inl h0)]
  unfold Q1u.f
  simp only [if_pos h0]
  exact Ev.now _
 ·by_cases h1:k≥r.length
  ·rw [if_pos (.inr h1)]
   unfold Q1u.f
   simp only [if_neg h0,if_pos h1]
   exact Ev.now _
  ·rw [if_neg (by omega)]
   obtain ⟨i,rfl⟩:=Int.eq_ofNat_of_zero_le (show 0≤k by omega)
   have hi:i<r.length:=by omega
   obtain ⟨b1,b2,b3⟩:=Q6r hs i hi
   have:=Gr.Qey m r p 20000 (by decide) hs.arcs i hi (by omega) b3 b2
   rw [Int.toNat_natCast,show r.getD i []=r[i] by simp [List.getD,List.getElem?_eq_getElem hi]]
   exact this
theorem Q36 {m:List (List Pt)} {r:List (List Int)} (hs:Small m r) (k:Int):(ringAt m r k).1.length<5864062014805:=by
 unfold ringAt
 split
 ·show 0<5864062014805;omega
 ·rename_i h
  obtain ⟨i,rfl⟩:=Int.eq_ofNat_of_zero_le (show 0≤k by omega)
  have hi:i<r.length:=by omega
  obtain ⟨b1,b2,b3⟩:=Q6r hs i hi
  rw [Int.toNat_natCast,show r.getD i []=r[i] by simp [List.getD,List.getElem?_eq_getElem hi]]
  exact Gr.Qc4 m 20000 hs.arcs r[i] b2
set_option maxHeartbeats 8000000 in
set_option maxRecDepth 100000 in
theorem Q8k (B:Nat) (Ao:Option Addr) (co:Nat) (O:List Pt) (W:World) (x:Pt) (hc:W.cell? ⟨B,0,none⟩=some (.slice Ao O.length co)) (hC:Kd.C k27 W Ao O.length O) (hle:O.length≤co) (hO:O.length<5864062014805) :
  Calls Try.prog 67 #[.agg #[.int .i64 x.f0,.int .i64 x.f1,.int .i64 x.f2],.pointer (some ⟨B,0,none⟩)] W fun e w'=>e=.returned (.bool (decide (inV x O<0)))∧Below W.heap.size W w':=by
 have hu27:=Try.underlying27
 obtain ⟨K,hK⟩:=Qej x O (by omega)
 have hba:Below W.heap.size W (W.alloc (.cells #[.int .i64 x.f0,.int .i64 x.f1,.int .i64 x.f2] 27)):=(Below.refl _ W).alloc (Nat.le_refl _) _
 have hin:=Q1k.calls K x.f0 x.f1 x.f2 Ao co O (inV x O) _ (Kd.Q12 hC hba) hle (hK K (Nat.le_refl _))
 have hlt:=World.block_lt_of_cell? W _ hc
 have hne:W.heap.size≠B:=by
  have:B<W.heap.size:=hlt
  omega
 have hne2:B≠W.heap.size:=by omega
 clear hK hC
 generalize inV x O=z at *
 go_enter Try.func67,Try.ntmps67
 go_wp2_with (first|(go_at_call 34;refine hin.mono ?_;rintro e w2 ⟨rfl,hb2⟩)|go_step3)
 go_ret
 exact ⟨rfl,Q0j hba hb2⟩
set_option maxHeartbeats 8000000 in
set_option maxRecDepth 100000 in
theorem Q89 (A0 A1 A2 Ap:Option Addr) (c0 c1 c2 cp:Nat) (m:List (List Pt)) (r p:List (List Int)) (poly:List Int) (w:World) (hr0:Kd.C (Kd.slice 27 k27) w A0 m.length m) (hc0:m.length≤c0) (hr1:Kd.C (Kd.slice 3 (Kd.int .i64)) w A1 r.length r) (hc1:r.length≤c1) (hr2:Kd.C (Kd.slice 3 (Kd.int .i64)) w A2 p.length p) (hc2:p.length≤c2)
  (hrp:Kd.C (Kd.int .i64) w Ap poly.length poly) (hcp:poly.length≤cp) (hs:Small m r) (hpl:poly.length≤20000) :
  Calls Try.prog 44 #[.agg #[.slice A0 m.length c0,.slice A1 r.length c1,.slice A2 p.length c2],.slice Ap poly.length cp] w fun e w'=>e=.returned (.bool (fillsV m r poly))∧Below w.heap.size w w':=by
 have hu25:=Try.underlying25
 have hu27:=Try.underlying27
 have hring:∀ (k:Int) (W:World),Below w.heap.size w W→Calls Try.prog 33 #[.agg #[.slice A0 m.length c0,.slice A1 r.length c1,.slice A2 p.length c2],.int .i64 k] W fun e w'=>∃ v0_:Value,e=.returned (.tuple #[v0_,.int .i64 (ringAt m r k).2])∧Kd.R k27 27 w' W.heap.size (fun _=>True) v0_ (ringAt m r k).1∧Below W.heap.size W w':=by
  intro k W hW
  obtain ⟨K,hK⟩:=Q5r hs p k
  exact Q1u.calls K A0 c0 m A1 c1 r A2 c2 p k _ _ W (Kd.Q12 hr0 hW) hc0 (Kd.Q12 hr1 hW) hc1 (Kd.Q12 hr2 hW) hc2 (hK K (Nat.le_refl _))
 have hrl:=Q36 hs
 have hfv:fillsV m r poly=(decide (0<poly.length)&&fillsL m r [] true poly):=rfl
 have hLstep:∀ (O:List Pt) (b:Bool) (k:Int) (t:List Int),fillsL m r O b (k :: t)=if (ringAt m r k).2≠0 then false else if b=true then (if signV (ringAt m r k).1≤0 then false else fillsL m r (ringAt m r k).1 false t) else if signV (ringAt m r k).1≥0 then false else if (ringAt m r k).1.any (fun x=>decide (inV x O<0))=true then false else fillsL m r O false t:=fun _ _ _ _=>rfl
 generalize fillsV m r poly=R at *
 generalize hL0:fillsL m r [] true poly=R0 at *
 have HL0:=Aside0.mk hL0
 have HFV:=Aside0.mk hfv
 have HST:=Aside0.mk hLstep
 have HRING:=Aside0.mk hring
 have HRL:=Aside0.mk hrl
 clear hL0 hfv hLstep hring hrl hr0 hr1 hr2
 go_enter Try.func44,Try.ntmps44
 go_upto_block 0 with (go_step3)
 obtain ⟨W1,hW1⟩:∃ W1:World,W1=(w.alloc (.cells #[.slice A0 m.length c0,.slice A1 r.length c1,.slice A2 p.length c2] 25)).alloc (.cells #[.slice none 0 0] 31):=⟨_,rfl⟩
 have hsz1:(w.alloc (.cells #[.slice A0 m.length c0,.slice A1 r.length c1,.slice A2 p.length c2] 25)).heap.size=w.heap.size+1:=by simp
 have hB1:Below w.heap.size w W1:=by rw [hW1];exact ((Below.refl _ w).alloc (Nat.le_refl _) _).alloc (by rw [hsz1];omega) _
 have hg0:W1.heap[w.heap.size]? = some (.cells #[.slice A0 m.length c0,.slice A1 r.length c1,.slice A2 p.length c2] 25 (0,0)):=by
  rw [hW1];exact (heap_alloc_old _ _ (by rw [hsz1];omega)).trans (heap_alloc_new _ _)
 have hgo:W1.heap[w.heap.size+1]? = some (.cells #[.slice none 0 0] 31 (0,0)):=by
  rw [hW1,← hsz1];exact heap_alloc_new _ _
 rw [← hW1]
 clear hW1 hsz1
 go_wp2_with (go_step3)
 go_loopw [14] (fun v wr=>∃ (i:Nat) (O:List Pt) (Ao:Option Addr) (co:Nat),i≤poly.length∧v=.int .i64 i∧wr.heap[w.heap.size]? = some (.cells #[.slice A0 m.length c0,.slice A1 r.length c1,.slice A2 p.length c2] 25 (0,0))∧wr.heap[w.heap.size+1]? = some (.cells #[.slice Ao O.length co] 31 (0,0))∧Kd.C k27 wr Ao O.length O∧O.length≤co∧O.length<5864062014805∧Aside0 (R0=fillsL m r O (decide (i=0)) (poly.drop i))∧Below w.heap.size w wr) (fun v _=>poly.length - (intV v).toNat)
 case atStart=>exact ⟨0,[],none,0,by omega,rfl,hg0,hgo,Kd.Qhe _ _,Nat.le_refl _,by show 0<5864062014805;omega,⟨HL0.out.symm⟩,hB1⟩
 case round =>
  clear hg0 hgo hB1
  obtain ⟨i,O,Ao,co,hi,rfl,hg0,hgo,hCO,hle,hOl,HR,hB⟩:=hrel
  rcases Nat.lt_or_ge i poly.length with hlt|hge
  ·have hii:(i:Int)<(poly.length:Int):=by omega
   have hib:decide ((i:Int)<(poly.length:Int))=true:=decide_eq_true hii
   obtain ⟨ad,eA,y0⟩:=Kd.Q2n (Kd.Q12 hrp hB) (i:Int) (by omega) hii
   subst eA
   rw [show rd poly (i:Int)=poly[i] by simp [rd,List.getD,List.getElem?_eq_getElem hlt],Int.toNat_natCast] at y0
   have hRi:=HR.out
   rw [List.drop_eq_getElem_cons hlt,HST.out] at hRi
   have HRI:=Aside0.mk hRi
   clear hRi HR
   generalize poly[i]=k at *
   have hring:=HRING.out k wr hB
   have hrl:=HRL.out k
   have hx0:wr.cell? ⟨w.heap.size,0,none⟩=some (.slice A0 m.length c0):=(Q0v hg0 0).trans rfl
   have hx1:wr.cell? ⟨w.heap.size,1,none⟩=some (.slice A1 r.length c1):=(Q0v hg0 1).trans rfl
   have hx2:wr.cell? ⟨w.heap.size,2,none⟩=some (.slice A2 p.length c2):=(Q0v hg0 2).trans rfl
   generalize ringAt m r k=rg at *
   obtain ⟨l,e⟩:=rg
   simp only at hring hrl
   go_upto_region 6 with (first|(go_at_call 33;refine hring.mono ?_;rintro ee w2 ⟨v2,rfl,ho2,hb2⟩;obtain ⟨A2',c2',e2'⟩:=Kd.Q01 ho2;subst e2')|go_step3)
   clear hring hx0 hx1 hx2 y0
   have hr2:=Kd.Q0w ho2
   have hB2:=Q0j hB hb2
   by_cases he:e=0
   ·subst he
    obtain ⟨K1,hK1⟩:=Q86 l (by omega)
    have harea:=Q1x.calls K1 A2' c2' l (hiw (areaV l)) (low (areaV l)) w2 hr2.2.2 hr2.2.1 (hK1 K1 (Nat.le_refl _))
    have hsign:=fun W=>Q3q.calls (hiw (areaV l)) (low (areaV l)) (cmp3 (off (areaV l)) (off 0)) W (Q99 (areaV l))
    have hsv:cmp3 (off (areaV l)) (off 0)=signV l:=rfl
    rw [hsv] at hsign
    clear hK1 hsv
    generalize hiw (areaV l)=ah at *
    generalize low (areaV l)=al at *
    generalize hsg:signV l=sg at *
    have HSG:=Aside0.mk hsg
    clear hsg
    go_upto_region 9 with (first|(go_at_call 46;refine harea.mono ?_;rintro ee w3 ⟨rfl,hb3⟩)|(go_at_call 24;refine (hsign _).mono ?_;rintro ee w4 ⟨rfl,hb4⟩)|go_step3)
    clear harea hsign
    have hb34:=Q0j hb3 hb4
    have hb24:=Q0j hb2 hb34
    have hgo4:=Q1p hgo hb24
    have hg04:=Q1p hg0 hb24
    have hB4:=Q0j hB hb24
    have hr4:=Kd.Q12 hr2.2.2 hb34
    have hCO4:=Kd.Q12 hCO hb24
    have hcell:w4.cell? ⟨w.heap.size+1,0,none⟩=some (.slice Ao O.length co):=(Q0v hgo4 0).trans rfl
    have hfz:=Q0k hgo4 0
    have hgl:=Q25 hgo
    have hRl:=Kd.Q40 (Kd.Q3u ho2) hb34
    have hl':True∨True:=.inr trivial
    clear hgo hg0 hCO hb24 hb34 hb3 hb4 hb2 hB2 hl'
    by_cases h0:i=0
    ·have hi0:((i:Int)==0)=true:=beq_iff_eq.mpr (by omega)
     have hR1:R0=if sg≤0 then false else fillsL m r l false (poly.drop (i+1)):=by rw [HRI.out,if_neg (by simp),if_pos (decide_eq_true h0)]
     have HR1:=Aside0.mk hR1
     clear hR1
     by_cases hs0:sg≤0
     ·have hRf:R=false:=by rw [HFV.out,HR1.out,if_pos hs0,Bool.and_false]
      have HRF:=Aside0.mk hRf
      clear hRf
      go_wp2_with (go_step3)
      go_ret
      exact ⟨by rw [HRF.out];rfl,Q2x hB4 (Nat.le_succ _)⟩
     ·have HR2:=Aside0.mk (show R0=fillsL m r l (decide (i+1=0)) (poly.drop (i+1)) by rw [HR1.out,if_neg hs0,decide_eq_false (by omega)])
      go_wp2_with (go_step3)
      go_roundw
      case rel=>exact ⟨i+1,l,A2',c2',by omega,by subst h0;rfl,Q2f hg04 (show w.heap.size≠w.heap.size+1 by omega) _,Q5c hgo4 0 _,(Kd.Q0w (Kd.Q3p (p:=⟨w.heap.size+1,0,none⟩) hRl (fun k hk=>by have:=hk.2.1;show k≠w.heap.size+1;omega) _)).2.2,hr2.2.1,hrl,HR2,Q2x hB4 (Nat.le_succ _)⟩
      case measure=>simp [intV];omega
    ·have hi0:((i:Int)==0)=false:=beq_eq_false_iff_ne.mpr (by omega)
     have hR1:R0=if sg≥0 then false else if l.any (fun x=>decide (inV x O<0))=true then false else fillsL m r O false (poly.drop (i+1)):=by rw [HRI.out,if_neg (by simp),if_neg (by simp [h0])]
     have HR1:=Aside0.mk hR1
     clear hR1
     by_cases hs0:sg≥0
     ·have hRf:R=false:=by rw [HFV.out,HR1.out,if_pos hs0,Bool.and_false]
      have HRF:=Aside0.mk hRf
      clear hRf
      go_wp2_with (go_step3)
      go_ret
      exact ⟨by rw [HRF.out];rfl,hB4⟩
     ·have hcon:=containsP 67 #[.pointer (some ⟨w.heap.size+1,0,none⟩)] (fun x=>decide (inV x O<0)) A2' c2' l w4 (enters_of Try.func67 (by kernel_rfl) rfl) hr4 (by have:=HRL.out k;omega) (fun W x _ hW=>Q8k (w.heap.size+1) Ao co O W x (Q4j hW hcell) (Kd.Q12 hCO4 hW) hle hOl)
      generalize hany:l.any (fun x=>decide (inV x O<0))=b at *
      have HANY:=Aside0.mk hany
      clear hany
      cases b with
      | true =>
       have hRf:R=false:=by rw [HFV.out,HR1.out,if_neg hs0,if_pos rfl,Bool.and_false]
       have HRF:=Aside0.mk hRf
       clear hRf
       go_wp2_with (first|(go_at_call 68;refine hcon.mono ?_;rintro ee w5 ⟨rfl,hb5⟩)|go_step3)
       go_ret
       exact ⟨by rw [HRF.out];rfl,Q0j hB4 hb5⟩
      | false =>
       have HR2:=Aside0.mk (show R0=fillsL m r O (decide (i+1=0)) (poly.drop (i+1)) by rw [HR1.out,if_neg hs0,if_neg (by simp),decide_eq_false (by omega)])
       go_wp2_with (first|(go_at_call 68;refine hcon.mono ?_;rintro ee w5 ⟨rfl,hb5⟩)|go_step3)
       go_roundw
       case rel=>exact ⟨i+1,O,Ao,co,by omega,rfl,Q1p hg04 hb5,Q1p hgo4 hb5,Kd.Q12 hCO4 hb5,hle,hOl,HR2,Q0j hB4 hb5⟩
       case measure=>simp [intV];omega
   ·have heb:(e != 0)=true:=bne_iff_ne.mpr he
    have hRf:R0=false:=by rw [HRI.out,if_pos he]
    have HRF:=Aside0.mk (show R=false by rw [HFV.out,hRf,Bool.and_false])
    clear hRf he
    go_wp2_with (go_step3)
    go_ret
    exact ⟨by rw [HRF.out];rfl,hB2⟩
  ·have hii:¬ (i:Int)<(poly.length:Int):=by omega
   have hib:decide ((i:Int)<(poly.length:Int))=false:=decide_eq_false hii
   have hR0:R=decide (0<poly.length):=by rw [HFV.out,HR.out,List.drop_of_length_le hge];exact Bool.and_true _
   have HR0:=Aside0.mk hR0
   clear hR0 HR
   go_wp2_with (go_step3)
   go_ret
   exact ⟨by rw [HR0.out];simp,hB⟩

def inR (r:List (List Int)) (k:Int):Bool:=decide (0≤k∧k<r.length)
def FillsV (m:List (List Pt)) (r p:List (List Int)):Bool:=p.flatten.all (inR r)&&((List.range' 0 r.length).all (fun k:Nat=>decide (p.flatten.count (k:Int)=1))&&p.all (fillsV m r))
def cntL (n:Nat) (l:List Int):List Int:=(List.range' 0 n).map fun k:Nat=>((l.count (k:Int):Nat):Int)
theorem Q3r (n:Nat) (l:List Int):(cntL n l).length=n:=by simp [cntL]
theorem Q46 (n:Nat) (l:List Int) (i:Nat) (h:i<n):(cntL n l)[i]'(by rw [Q3r];exact h)=(l.count (i:Int):Int):=by simp [cntL]
theorem Q9y (n:Nat):cntL n []=List.replicate n 0:=by
 apply List.ext_getElem
 ·simp [cntL]
 ·intro i h1 h2;simp [cntL]
theorem Q87 (n:Nat) (l:List Int) (k:Nat) (h:k<n):cntL n (l++[(k:Int)])=(cntL n l).set k ((l.count (k:Int):Int)+1):=by
 apply List.ext_getElem
 ·simp [cntL]
 ·intro i h1 h2
  rw [Q3r] at h1
  rw [Q46 n _ i h1,List.getElem_set,List.count_append]
  by_cases e:k=i
  ·subst e
   rw [if_pos rfl]
   simp
  ·rw [if_neg e,Q46 n _ i h1]
   have:¬ ((k:Int)=(i:Int)):=by omega
   simp [List.count_cons,this]
def blkI (l:List Int):Array Value:=(l.map (Value.int .i64)).toArray
theorem Q7y (l:List Int) (i:Nat) (x:Int):(blkI l).setIfInBounds i (.int .i64 x)=blkI (l.set i x):=by simp [blkI,List.map_set]
theorem Qcs (w:World) (g:Nat) (xs:List Int) (t:TypeId) (fr:Nat×Nat) (hg:w.heap[g]? = some (.cells (blkI xs) t fr)) (hl:xs.length≤9223372036854775807):Kd.C (Kd.int .i64) w (some ⟨g,0,none⟩) xs.length xs:=by
 refine ⟨rfl,hl,fun _=>⟨⟨g,0,none⟩,rfl,fun j p hp=>⟨[.int .i64 p],rfl,rfl,fun i u hu => ?_⟩⟩⟩
 have hi:i=0:=by
  cases i with
  | zero=>rfl
  | succ i=>simp at hu
 subst hi
 have hu':Value.int .i64 p=u:=by simpa using hu
 subst hu'
 have e:(Addr.add ⟨g,0,none⟩ (j*(Kd.int IntKind.i64).sz+0))=⟨g,j,none⟩:=by
  have:(Kd.int IntKind.i64).sz=1:=rfl
  rw [this,Addr.add_mid];simp
 rw [e,cell_of_row w g j _ t fr hg]
 simp [blkI,hp]
theorem Qb4 {ops:Array Oper} {rest:List Oper} {o:Oper} {a:Act} {Q:Exit→Act→World→Prop} {W:World} (hgd:o.guard=none) {N':Tmp} (hd:o.dst=some N') (x y:Operand) (ho:o.op=.makeSlice 32 x y) (n:Nat) (hx:a.eval x=.int .i64 (n:Int)) (hy:a.eval y=.int .i64 (n:Int)) (hn:n≤1000000)
  (h:∀ w1,w1.heap[W.heap.size]? = some (.cells (blkI (List.replicate n 0)) 3 (0,0))→Below W.heap.size W w1→wpList Try.prog ops Q rest (a.put o.dst (.slice (some ⟨W.heap.size,0,none⟩) n n)) w1):wpList Try.prog ops Q (o :: rest) a W:=by
 obtain ⟨i0,hi,hzz⟩:=Option.map_eq_some_iff.1 inf3
 simp only [Prod.mk.injEq] at hzz
 obtain ⟨hz0,hz1,hz2⟩:=hzz
 have hr:=run_make (P:=Try.prog) W 32 3 i0 _ Try.underlying32 hi hz0 .i64 .i64 (n:Int) (n:Int) (by omega) (by omega) (by rw [hz2];omega) (by omega)
 rw [Int.toNat_natCast,hz1,Nat.mul_one] at hr
 refine Kd.Q4t (v:=.slice (some ⟨W.heap.size,0,none⟩) n n) (w1:=W.alloc (.cells (madeCells (Value.cells (.int .i64 0)) n) 3)) hgd (by simp [execOp,ho,hx,hy,hr]) (h _ ?_ ((Below.refl _ W).alloc (Nat.le_refl _) _))
 have e:madeCells (Value.cells (.int .i64 0)) n=blkI (List.replicate n 0):=by
  apply Array.ext'
  show (madeCells #[Value.int .i64 0] n).toList=_
  rw [toList_madeCells_one]
  simp [blkI]
 rw [e]
 exact heap_alloc_new _ _
theorem Qe6 (n:Nat) (l:List Int):(cntL n l).any (fun x=>x != 1) = !((List.range' 0 n).all (fun k:Nat=>decide (l.count (k:Int)=1))):=by
 unfold cntL
 rw [List.any_map,List.not_all_eq_any_not]
 congr 1
 funext k
 show ((l.count (k:Int):Int) != 1) = !decide (l.count (k:Int)=1)
 by_cases h:l.count (k:Int)=1
 ·rw [h];rfl
 ·have:¬ ((l.count (k:Int):Int)=1):=by omega
  simp [h,this]
set_option maxHeartbeats 8000000 in
set_option maxRecDepth 100000 in
theorem Qa2 (W:World) (x:Int):Calls Try.prog 41 #[.int .i64 x] W fun e w'=>e=.returned (.bool (x != 1))∧Below W.heap.size W w':=by
 go_enter Try.func41,Try.ntmps41
 go_wp2_with (go_step3)
 go_ret
 exact ⟨rfl,Below.refl _ _⟩
set_option maxHeartbeats 8000000 in
set_option maxRecDepth 100000 in
theorem Q63 (A0 A1 A2 Ap:Option Addr) (c0 c1 c2 cp:Nat) (m:List (List Pt)) (r p:List (List Int)) (poly:List Int) (w W:World) (g:Nat) (hW:Below w.heap.size w W) (hg:w.heap[g]? = some (.cells #[.slice A0 m.length c0,.slice A1 r.length c1,.slice A2 p.length c2] 25 (0,0))) (hr0:Kd.C (Kd.slice 27 k27) w A0 m.length m) (hc0:m.length≤c0) (hr1:Kd.C (Kd.slice 3 (Kd.int .i64)) w A1 r.length r) (hc1:r.length≤c1) (hr2:Kd.C (Kd.slice 3 (Kd.int .i64)) w A2 p.length p) (hc2:p.length≤c2)
  (hrp:Kd.C (Kd.int .i64) W Ap poly.length poly) (hcp:poly.length≤cp) (hs:Small m r) (hpl:poly.length≤20000) :
  Calls Try.prog 43 #[.slice Ap poly.length cp,.pointer (some ⟨g,0,none⟩)] W fun e w'=>e=.returned (.bool (!fillsV m r poly))∧Below W.heap.size W w':=by
 have hu25:=Try.underlying25
 have hgW:=Q1p hg hW
 have hf:=Q89 A0 A1 A2 Ap c0 c1 c2 cp m r p poly W (Kd.Q12 hr0 hW) hc0 (Kd.Q12 hr1 hW) hc1 (Kd.Q12 hr2 hW) hc2 hrp hcp hs hpl
 have x0:W.cell? ⟨g,0,none⟩=some (.slice A0 m.length c0):=(Q0v hgW 0).trans rfl
 have x1:W.cell? ⟨g,1,none⟩=some (.slice A1 r.length c1):=(Q0v hgW 1).trans rfl
 have x2:W.cell? ⟨g,2,none⟩=some (.slice A2 p.length c2):=(Q0v hgW 2).trans rfl
 clear hr0 hr1 hr2 hrp hg hgW hW
 generalize fillsV m r poly=b at *
 go_enter Try.func43,Try.ntmps43
 go_wp2_with (first|(go_at_call 44;refine hf.mono ?_;rintro e w2 ⟨rfl,hb2⟩)|go_step3)
 go_ret
 exact ⟨rfl,hb2⟩
set_option maxHeartbeats 8000000 in
set_option maxRecDepth 100000 in
theorem Q9n (A0 A1 A2:Option Addr) (c0 c1 c2:Nat) (m:List (List Pt)) (r p:List (List Int)) (w:World) (hr0:Kd.C (Kd.slice 27 k27) w A0 m.length m) (hc0:m.length≤c0) (hr1:Kd.C (Kd.slice 3 (Kd.int .i64)) w A1 r.length r) (hc1:r.length≤c1) (hr2:Kd.C (Kd.slice 3 (Kd.int .i64)) w A2 p.length p) (hc2:p.length≤c2)
  (hs:Small m r) (hp:p.length≤20000) (hpf:p.flatten.length≤20000) :
  Calls Try.prog 15 #[.agg #[.slice A0 m.length c0,.slice A1 r.length c1,.slice A2 p.length c2]] w fun e w'=>e=.returned (.bool (FillsV m r p))∧Below w.heap.size w w':=by
 have hu25:=Try.underlying25
 have hrl:=hs.rings
 have hFV:FillsV m r p=(p.flatten.all (inR r)&&((List.range' 0 r.length).all (fun k:Nat=>decide (p.flatten.count (k:Int)=1))&&p.all (fillsV m r))):=rfl
 have hconcat:=fun W (h:Below w.heap.size w W)=>Q5d A2 c2 p W (Kd.Q12 hr2 h) (by omega) (by omega)
 generalize FillsV m r p=R at *
 have hpx:∀ x∈p,x.length≤20000:=fun x hx=>Nat.le_trans (Q3g p x hx) hpf
 generalize p.flatten=L at *
 have HFV:=Aside0.mk hFV
 clear hFV
 go_enter Try.func15,Try.ntmps15
 have hba:Below w.heap.size w (w.alloc (.cells #[.slice A0 m.length c0,.slice A1 r.length c1,.slice A2 p.length c2] 25)):=(Below.refl _ w).alloc (Nat.le_refl _) _
 have hga:=heap_alloc_new w (.cells #[.slice A0 m.length c0,.slice A1 r.length c1,.slice A2 p.length c2] 25)
 go_upto_region 1 with (go_step3)
 generalize w.alloc (.cells #[.slice A0 m.length c0,.slice A1 r.length c1,.slice A2 p.length c2] 25)=W0 at hba hga ⊢
 have x1:W0.cell? ⟨w.heap.size,1,none⟩=some (.slice A1 r.length c1):=(Q0v hga 1).trans rfl
 go_upto_region 2 with (first|((with_reducible refine Q0i (N:=9) rfl ?_);refine Qb4 ?hg (N':=9) ?hd (.tmp 8) (.tmp 8) ?ho r.length ?hx ?hy (by omega) ?_;(case hd=>rfl);(case hg=>rfl);(case ho=>rfl);(case hx=>rfl);(case hy=>rfl);intro w1 hu hb1)|go_step3)
 have hg1:=Q1p hga hb1
 have hB1:=Q0j hba hb1
 have x2:w1.cell? ⟨w.heap.size,2,none⟩=some (.slice A2 p.length c2):=(Q0v hg1 2).trans rfl
 have hcc:=hconcat w1 hB1
 have hgu1:W0.heap.size<w1.heap.size:=Q25 hu
 have hW0:=hba.size
 clear x1 hga hba
 go_upto_block 0 with (first|(go_at_call 39;refine hcc.mono ?_;rintro e w2 ⟨v2,rfl,ho2,hb2⟩;obtain ⟨A3,c3,e3⟩:=Kd.Q01 ho2;subst e3)|go_step3)
 clear x2 hcc hconcat
 have hRL:=Kd.Q1q (ok':=fun k=>w1.heap.size≤k) (Kd.Q3u ho2) (fun k hk=>hk.2.1)
 have hu2:=Q1p hu hb2
 have hg2:=Q1p hg1 hb2
 have hB2:=Q0j hB1 hb2
 have hg0u:w.heap.size≠W0.heap.size:=by
  intro e
  rw [← e] at hu
  rw [hg1] at hu
  simp at hu
 have hwg:w.heap.size≤W0.heap.size:=hW0
 clear ho2 hu hg1 hB1 hb1 hb2
 go_wp2_with (go_step3)
 go_loopw [14] (fun v wr=>∃ i:Nat,i≤L.length∧v=.int .i64 i∧wr.heap[W0.heap.size]? = some (.cells (blkI (cntL r.length (L.take i))) 3 (0,0))∧wr.heap[w.heap.size]? = some (.cells #[.slice A0 m.length c0,.slice A1 r.length c1,.slice A2 p.length c2] 25 (0,0))∧Kd.R (Kd.int .i64) 3 wr w1.heap.size (fun k=>w1.heap.size≤k) (.slice A3 L.length c3) L∧Aside0 ((L.take i).all (inR r)=true)∧Below w.heap.size w wr) (fun v _=>L.length - (intV v).toNat)
 case atStart=>exact ⟨0,by omega,rfl,by rw [List.take_zero,Q9y];exact hu2,hg2,hRL,⟨rfl⟩,hB2⟩
 case round =>
  clear hu2 hg2 hRL hB2
  obtain ⟨i,hi,rfl,hu,hg,hRL,HA,hB⟩:=hrel
  rcases Nat.lt_or_ge i L.length with hlt|hge
  ·have hii:(i:Int)<(L.length:Int):=by omega
   have hib:decide ((i:Int)<(L.length:Int))=true:=decide_eq_true hii
   obtain ⟨ad,eA,y0⟩:=Kd.Q2n (Kd.Q0w hRL).2.2 (i:Int) (by omega) hii
   subst eA
   rw [show rd L (i:Int)=L[i] by simp [rd,List.getD,List.getElem?_eq_getElem hlt],Int.toNat_natCast] at y0
   have htk:L.take (i+1)=L.take i++[L[i]]:=by rw [List.take_add_one,List.getElem?_eq_getElem hlt];rfl
   have hno:inR r L[i]=false→R=false:=fun h=>by
    rw [HFV.out]
    have:L.all (inR r)=false:=by
     rw [Bool.eq_false_iff]
     intro h2
     have:=List.all_eq_true.1 h2 _ (List.getElem_mem hlt)
     rw [h] at this
     cases this
    rw [this,Bool.false_and]
   have hcl:(L.take i).count L[i]≤20000:=Nat.le_trans List.count_le_length (by rw [List.length_take];omega)
   have HTK:=Aside0.mk htk
   have HNO:=Aside0.mk hno
   clear htk hno
   generalize hk:L[i]=k at *
   clear hk
   by_cases h0:k<0
   ·have hRf:=HNO.out (decide_eq_false (by omega))
    have HRF:=Aside0.mk hRf
    clear hRf
    go_wp2_with (go_step3)
    go_ret
    exact ⟨by rw [HRF.out];rfl,hB⟩
   ·by_cases h1:k≥(r.length:Int)
    ·have hRf:=HNO.out (decide_eq_false (by omega))
     have HRF:=Aside0.mk hRf
     clear hRf
     go_wp2_with (go_step3)
     go_ret
     exact ⟨by rw [HRF.out];rfl,hB⟩
    ·obtain ⟨q,rfl⟩:=Int.eq_ofNat_of_zero_le (show 0≤k by omega)
     have hq:q<r.length:=by omega
     have hqi:(q:Int)<(r.length:Int):=by omega
     have hcu:wr.cell? ⟨W0.heap.size,q,none⟩=some (.int .i64 (((L.take i).count (q:Int):Nat):Int)):=by
      rw [Q0v hu q]
      unfold blkI
      have:=Q46 r.length (L.take i) q hq
      simp [this,Q3r,hq]
      try rw [List.getElem?_eq_getElem (by rw [Q3r];exact hq),this]
      try rfl
     have hfz:=Q0k hu q
     have HA2:=Aside0.mk (show (L.take (i+1)).all (inR r)=true by rw [HTK.out,List.all_append,HA.out];simp [inR,hq])
     have HCN:=Aside0.mk (show cntL r.length (L.take (i+1))=(cntL r.length (L.take i)).set q ((((L.take i).count (q:Int):Nat):Int)+1) by rw [HTK.out];exact Q87 r.length (L.take i) q hq)
     generalize (L.take i).count (q:Int)=cn at *
     clear h0 h1
     go_wp2_with (go_step3)
     go_roundw
     case rel =>
      refine ⟨i+1,by omega,rfl,?_,Q2f hg hg0u _,Kd.Q3p (p:=⟨W0.heap.size,q,none⟩) hRL (fun k hk=>by show k≠W0.heap.size;omega) _,HA2,Q2x hB hwg⟩
      rw [HCN.out,← Q7y]
      exact Q5c hu q _
     case measure=>simp [intV];omega
  ·have hii:¬ (i:Int)<(L.length:Int):=by omega
   have hib:decide ((i:Int)<(L.length:Int))=false:=decide_eq_false hii
   rw [List.take_of_length_le hge] at hu
   have hall:L.all (inR r)=true:=by have:=HA.out;rwa [List.take_of_length_le hge] at this
   have hCu:=Qcs wr W0.heap.size (cntL r.length L) 3 (0,0) hu (by rw [Q3r];omega)
   have hone:=containsI 41 #[] (fun x=>x != 1) (some ⟨W0.heap.size,0,none⟩) r.length (cntL r.length L) wr (enters_of Try.func41 (by kernel_rfl) rfl) hCu (by rw [Q3r];omega) (fun W x _ hW=>Qa2 W x)
   rw [Qe6,Q3r] at hone
   have hR2:R=((List.range' 0 r.length).all (fun k:Nat=>decide (L.count (k:Int)=1))&&p.all (fillsV m r)):=by rw [HFV.out,hall,Bool.true_and]
   have HR2:=Aside0.mk hR2
   have hpol:=fun W (h:Below wr.heap.size wr W)=>containsR 43 #[.pointer (some ⟨w.heap.size,0,none⟩)] (fun x => !fillsV m r x) A2 c2 p W (enters_of Try.func43 (by kernel_rfl) rfl) (Kd.Q12 hr2 (Q0j hB h)) (by omega) (fun W2 x A1' c1' hx hW2 hC2 hc2'=>Q63 A0 A1 A2 A1' c0 c1 c2 c1' m r p x W W2 w.heap.size hW2 (Q1p hg h) (Kd.Q12 hr0 (Q0j hB h)) hc0 (Kd.Q12 hr1 (Q0j hB h)) hc1 (Kd.Q12 hr2 (Q0j hB h)) hc2 hC2 hc2' hs (hpx x hx))
   have hany:p.any (fun x => !fillsV m r x) = !p.all (fillsV m r):=by rw [List.not_all_eq_any_not]
   rw [hany] at hpol
   clear hall hR2 hany hCu hRL
   generalize (List.range' 0 r.length).all (fun k:Nat=>decide (L.count (k:Int)=1))=b1 at *
   generalize p.all (fillsV m r)=b2 at *
   have hgw:∀ W,Below wr.heap.size wr W→W.cell? ⟨w.heap.size,2,none⟩=some (.slice A2 p.length c2):=fun W h=>(Q0v (Q1p hg h) 2).trans rfl
   cases b1 with
   | false =>
    have HRF:=Aside0.mk (show R=false by rw [HR2.out];rfl)
    go_wp2_with (first|(go_at_call 40;refine hone.mono ?_;rintro ee w3 ⟨rfl,hb3⟩)|go_step3)
    go_ret
    exact ⟨by rw [HRF.out];rfl,Q0j hB hb3⟩
   | true =>
    have HRF:=Aside0.mk (show R=b2 by rw [HR2.out];rfl)
    go_wp2_with (first|(go_at_call 40;refine hone.mono ?_;rintro ee w3 ⟨rfl,hb3⟩;have x2:=hgw w3 hb3)|(go_at_call 42;refine (hpol _ hb3).mono ?_;rintro ee w4 ⟨rfl,hb4⟩)|go_step3)
    go_ret
    exact ⟨by rw [HRF.out];simp,Q0j (Q0j hB hb3) hb4⟩
end Go.Proofs.Ytbonkedecfjmdaa.Pl

namespace Go.Proofs.Ytbonkedecfjmdaa.Pl
set_option linter.unusedVariables false
set_option linter.unusedSimpArgs false
open Go Go.RowKit Go.Proofs.Ytbonkedecfjmdaa.X Go.Proofs.Ytbonkedecfjmdaa.P Go.Proofs.Ytbonkedecfjmdaa.G Go.Proofs.Ytbonkedecfjmdaa.WL Go.Proofs.YtbonkedecfjmdaaW.PrintWords Go.Proofs.YtbonkedecfjmdaaW.PrintLast Go.Proofs.YtbonkedecfjmdaaW.PrintMore
def bckL (n:Nat) (l:List Int):List Int:=(List.range' 0 n).map fun k:Nat=>((l.count (-1 - (k:Int)):Nat):Int)
theorem Q43 (n:Nat) (l:List Int):(bckL n l).length=n:=by simp [bckL]
theorem Q5g (n:Nat) (l:List Int) (i:Nat) (h:i<n):(bckL n l)[i]'(by rw [Q43];exact h)=(l.count (-1 - (i:Int)):Int):=by simp [bckL]
theorem Qdu (n:Nat):bckL n []=List.replicate n 0:=by
 apply List.ext_getElem
 ·simp [bckL]
 ·intro i h1 h2;simp [bckL]
theorem cnt1 (l:List Int) (k j:Int):(l++[k]).count j=l.count j+if k=j then 1 else 0:=by
 rw [List.count_append,List.count_cons,List.count_nil]
 by_cases h:k=j
 ·simp [h]
 ·simp [h]
theorem Qcv (n:Nat) (l:List Int) (k:Int) (q:Nat) (h:q<n) (e:k = -1 - (q:Int)):bckL n (l++[k])=(bckL n l).set q ((l.count k:Int)+1):=by
 apply List.ext_getElem
 ·simp [bckL]
 ·intro i h1 h2
  rw [Q43] at h1
  rw [Q5g n _ i h1,List.getElem_set,cnt1]
  by_cases e2:q=i
  ·subst e2
   rw [if_pos rfl,if_pos e,e]
   omega
  ·rw [if_neg e2,Q5g n _ i h1,if_neg (by omega)]
   omega
theorem Q8e (n:Nat) (l:List Int) (k:Int) (h:¬ (0≤k∧k<n)):cntL n (l++[k])=cntL n l:=by
 apply List.ext_getElem
 ·simp [cntL]
 ·intro i h1 h2
  rw [Q3r] at h1 h2
  rw [Q46 n _ i h1,Q46 n _ i h1,cnt1,if_neg (by omega)]
  omega
theorem Q83 (n:Nat) (l:List Int) (k:Int) (h:¬ (0 ≤ -1 - k ∧ -1 - k<n)):bckL n (l++[k])=bckL n l:=by
 apply List.ext_getElem
 ·simp [bckL]
 ·intro i h1 h2
  rw [Q43] at h1 h2
  rw [Q5g n _ i h1,Q5g n _ i h1,cnt1,if_neg (by omega)]
  omega
theorem not64' {x:Int} (h : -9223372036854775808≤x) (h':x≤9223372036854775807):Go.bits .xor .i64 (-1) x = -x - 1:=Gr.not64 h h'
theorem Q39 {ops:Array Oper} {o:Oper} {a:Act} {Q:Exit→Act→World→Prop} {Kc:Act→World→Prop} {W:World} (hw:Region.wanted o (yielded ops a.tmps)=true) {N:Tmp} (hd:o.dst=some N) (x y:Operand) (ho:o.op=.makeSlice 32 x y) (n:Nat) (hx:a.eval x=.int .i64 (n:Int)) (hy:a.eval y=.int .i64 (n:Int)) (hn:n≤1000000)
  (h:∀ w1,w1.heap[W.heap.size]? = some (.cells (blkI (List.replicate n 0)) 3 (0,0))→Below W.heap.size W w1→Kc (a.put o.dst (.slice (some ⟨W.heap.size,0,none⟩) n n)) w1):if Region.wanted o (yielded ops a.tmps)=true then Oper.wp Try.prog o a W Kc Q else Kc (a.put o.dst undef) W:=by
 obtain ⟨i0,hi,hzz⟩:=Option.map_eq_some_iff.1 inf3
 simp only [Prod.mk.injEq] at hzz
 obtain ⟨hz0,hz1,hz2⟩:=hzz
 have hr:=run_make (P:=Try.prog) W 32 3 i0 _ Try.underlying32 hi hz0 .i64 .i64 (n:Int) (n:Int) (by omega) (by omega) (by rw [hz2];omega) (by omega)
 rw [Int.toNat_natCast,hz1,Nat.mul_one] at hr
 refine Q66 (v:=.slice (some ⟨W.heap.size,0,none⟩) n n) (w1:=W.alloc (.cells (madeCells (Value.cells (.int .i64 0)) n) 3)) hw (by simp [execOp,ho,hx,hy,hr]) (h _ ?_ ((Below.refl _ W).alloc (Nat.le_refl _) _))
 have e:madeCells (Value.cells (.int .i64 0)) n=blkI (List.replicate n 0):=by
  apply Array.ext'
  show (madeCells #[Value.int .i64 0] n).toList=_
  rw [toList_madeCells_one]
  simp [blkI]
 rw [e]
 exact heap_alloc_new _ _
def usesT:Bool×List (List Nat×List Nat):=(true,[([],[]),([0],[0]),([1],[1]),([2,2],[2]),([],[]),([4],[4]),([5],[5]),([6,6],[6]),([3,0,1,2,3],[3]),([7,8,0,1,2,3,4,5,6,7,8],[7])])
def usesB:List Nat:=[0,1,3,7,0,16,48,112,15,511]
theorem usesTab:rtab .any (opsOf Try.f37 1)=usesT:=by kernel_rfl
theorem usesBits:waitsOk usesT.2 usesB=true:=by kernel_rfl
set_option maxHeartbeats 8000000 in
set_option maxRecDepth 100000 in
theorem Qao (A0 A1 A2:Option Addr) (c0 c1 c2:Nat) (m:List (List Pt)) (r p:List (List Int)) (w:World) (hr1:Kd.C (Kd.slice 3 (Kd.int .i64)) w A1 r.length r) (hs:Small m r) (hml:m.length≤1000000) :
  Calls Try.prog 37 #[.agg #[.slice A0 m.length c0,.slice A1 r.length c1,.slice A2 p.length c2]] w fun e w'=>∃ g1 g2:Nat,e=.returned (.tuple #[.slice (some ⟨g1,0,none⟩) m.length m.length,.slice (some ⟨g2,0,none⟩) m.length m.length])∧w'.heap[g1]? = some (.cells (blkI (cntL m.length r.flatten)) 3 (0,0))∧w'.heap[g2]? = some (.cells (blkI (bckL m.length r.flatten)) 3 (0,0))∧Below w.heap.size w w':=by
 have hu25:=Try.underlying25
 have hrl:=hs.rings
 have hfl:=hs.refs
 have hwf:∀ n∈r.flatten,wf64 n:=fun n hn=>by
  obtain ⟨x,hx,hnx⟩:=List.mem_flatten.1 hn
  exact hs.wf x hx n hnx
 have hconcat:=fun W (h:Below w.heap.size w W)=>Q5d A1 c1 r W (Kd.Q12 hr1 h) (by omega) (by omega)
 generalize r.flatten=L at *
 go_enter Try.func37,Try.ntmps37
 have hba:Below w.heap.size w (w.alloc (.cells #[.slice A0 m.length c0,.slice A1 r.length c1,.slice A2 p.length c2] 25)):=(Below.refl _ w).alloc (Nat.le_refl _) _
 have hga:=heap_alloc_new w (.cells #[.slice A0 m.length c0,.slice A1 r.length c1,.slice A2 p.length c2] 25)
 go_upto_region 1 with (go_step3)
 generalize w.alloc (.cells #[.slice A0 m.length c0,.slice A1 r.length c1,.slice A2 p.length c2] 25)=W0 at hba hga ⊢
 have hg6:=Q0d hga
 have hB6:=Q2k hba
 clear hga hba
 refine sP 10 (S:=fun w'=>w'.cell? ⟨w.heap.size,0,none⟩=some (.slice A0 m.length c0)∧w'.cell? ⟨w.heap.size,1,none⟩=some (.slice A1 r.length c1)∧w'.cell? ⟨w.heap.size,2,none⟩=some (.slice A2 p.length c2)) (ds:=[]) ⟨(Q0v hg6 0).trans rfl,(Q0v hg6 1).trans rfl,(Q0v hg6 2).trans rfl⟩ fun hHeld => ?_;refine Q1m usesTab usesBits (fun HT_ HW_ => ?_)
 generalize W0.drew=w6 at hg6 hB6 hHeld ⊢
 refine pQ 0 (some 8) HT_ ?_;refine pQ 4 (some 12) HT_ ?_;refine tQ 1 (some 9) HT_ HW_ hHeld ?_;refine pQ 2 (some 10) HT_ ?_;refine tQ 5 (some 13) HT_ HW_ hHeld ?_;refine pQ 6 (some 14) HT_ ?_
 refine join_ (σ:=Nat×Nat) 1 #[true,true,true,true,true,true,true,true,true,false] (fun s_=>[(11,.slice (some ⟨s_.1,0,none⟩) m.length m.length),(15,.slice (some ⟨s_.2,0,none⟩) m.length m.length),(4,.slice (some ⟨s_.1,0,none⟩) m.length m.length)]) (fun s_ w'=>(w'.cell? ⟨w.heap.size,0,none⟩=some (.slice A0 m.length c0)∧w'.cell? ⟨w.heap.size,1,none⟩=some (.slice A1 r.length c1)∧w'.cell? ⟨w.heap.size,2,none⟩=some (.slice A2 p.length c2))∧w'.heap[s_.1]? = some (.cells (blkI (List.replicate m.length 0)) 3 (0,0))∧w'.heap[s_.2]? = some (.cells (blkI (List.replicate m.length 0)) 3 (0,0))∧s_.1≠s_.2∧w.heap.size<s_.1∧w.heap.size<s_.2∧w'.heap[w.heap.size]? = some (.cells #[.slice A0 m.length c0,.slice A1 r.length c1,.slice A2 p.length c2] 25 (0,0))∧Below w.heap.size w w') ?_ ?_
 rotate_left
 ·intro hCont
  refine two_ (i:=3) (j:=7) (Ni:=some 11) (Nj:=some 15) #[true,true,true,true,true,true,true,false,false,false] #[true,true,true,false,true,true,true,true,false,false] rfl rfl rfl rfl (Qhy HT_.out (by kernel_rfl)) (by decide) (by decide) (fun K hK => ?_) (fun K hK => ?_)
  rotate_left
  ·skip
   refine Q39 (by rfl) (N:=15) rfl (.tmp 14) (.tmp 14) rfl m.length rfl rfl (by omega) ?_
   intro w7 hu7 hb7
   have hg7:=Q1p hg6 hb7
   have hB7:=Q0j hB6 hb7
   have hlt7:=Q0h hB6
   refine hK.out _ _ ⟨(Q0v hg7 0).trans rfl,(Q0v hg7 1).trans rfl,(Q0v hg7 2).trans rfl⟩ (fun hHeld => ?_)
   clear hK K;refine nP (some 15) ?_
   refine oQ 3 (some 11) HT_ rfl fun K hK => ?_
   refine Q39 (by rfl) (N:=11) rfl (.tmp 10) (.tmp 10) rfl m.length rfl rfl (by omega) ?_
   intro w9 hu9 hb9
   have hg9:=Q1p hg7 hb9
   have hB9:=Q0j hB7 hb9
   have hu79:=Q1p hu7 hb9
   have hl7:=Q25 hu7
   have hl6:=Q25 hg6
   refine hK.out _ _ ⟨(Q0v hg9 0).trans rfl,(Q0v hg9 1).trans rfl,(Q0v hg9 2).trans rfl⟩ (fun hHeld => ?_)
   clear hK K;refine nP (some 11) ?_;refine pQ 8 (some 4) HT_ ?_
   exact norm_ (by simp only [putAll,Act.put,List.setIfInBounds_toArray,List.set_cons_zero,List.set_cons_succ]) (hCont (w7.heap.size,w6.heap.size) _ ⟨hHeld,hu9,hu79,(by show w7.heap.size≠w6.heap.size;omega),(by show w.heap.size<w7.heap.size;omega),(by show w.heap.size<w6.heap.size;omega),hg9,hB9⟩)
  ·skip
   refine Q39 (by rfl) (N:=11) rfl (.tmp 10) (.tmp 10) rfl m.length rfl rfl (by omega) ?_
   intro w7 hu7 hb7
   have hg7:=Q1p hg6 hb7
   have hB7:=Q0j hB6 hb7
   have hlt7:=Q0h hB6
   refine hK.out _ _ ⟨(Q0v hg7 0).trans rfl,(Q0v hg7 1).trans rfl,(Q0v hg7 2).trans rfl⟩ (fun hHeld => ?_)
   clear hK K;refine nP (some 11) ?_;refine pQ 8 (some 4) HT_ ?_
   refine oQ 7 (some 15) HT_ rfl fun K hK => ?_
   refine Q39 (by rfl) (N:=15) rfl (.tmp 14) (.tmp 14) rfl m.length rfl rfl (by omega) ?_
   intro w9 hu9 hb9
   have hg9:=Q1p hg7 hb9
   have hB9:=Q0j hB7 hb9
   have hu79:=Q1p hu7 hb9
   have hl7:=Q25 hu7
   have hl6:=Q25 hg6
   refine hK.out _ _ ⟨(Q0v hg9 0).trans rfl,(Q0v hg9 1).trans rfl,(Q0v hg9 2).trans rfl⟩ (fun hHeld => ?_)
   clear hK K;refine nP (some 15) ?_
   exact norm_ (by simp only [putAll,Act.put,List.setIfInBounds_toArray,List.set_cons_zero,List.set_cons_succ]) (hCont (w6.heap.size,w7.heap.size) _ ⟨hHeld,hu79,hu9,(by show w6.heap.size≠w7.heap.size;omega),(by show w.heap.size<w6.heap.size;omega),(by show w.heap.size<w7.heap.size;omega),hg9,hB9⟩)
 rintro ⟨g1,g2⟩ w11 ⟨hS_,hu1,hu2,hne,hlt1,hlt2,hgb,hB⟩
 simp only at hu1 hu2 hne hlt1 hlt2
 have hHeld:w11.cell? ⟨w.heap.size,0,none⟩=some (.slice A0 m.length c0)∧w11.cell? ⟨w.heap.size,1,none⟩=some (.slice A1 r.length c1)∧w11.cell? ⟨w.heap.size,2,none⟩=some (.slice A2 p.length c2):=hS_
 refine norm_ (a' := ?_) ?_ ?_
 rotate_left
 ·simp only [putAll,Act.put,List.setIfInBounds_toArray,List.set_cons_zero,List.set_cons_succ]
  rfl
 refine pQ 9 (some 5) HT_ ?_
 refine done_ (Q2d HT_.out (by kernel_rfl)) ?_
 have x1:w11.cell? ⟨w.heap.size,1,none⟩=some (.slice A1 r.length c1):=(Q0v hgb 1).trans rfl
 have hcc:=hconcat w11 hB
 clear hconcat hS_ hHeld HT_ HW_ hg6 hB6
 go_upto_block 0 with (first|(go_at_call 39;refine hcc.mono ?_;rintro e w2 ⟨v2,rfl,ho2,hb2⟩;obtain ⟨A3,c3,e3⟩:=Kd.Q01 ho2;subst e3)|go_step3)
 have hRL:=Kd.Q1q (ok':=fun k=>w11.heap.size≤k) (Kd.Q3u ho2) (fun k hk=>hk.2.1)
 have hg1l:=Q25 hu1
 have hg2l:=Q25 hu2
 have hu1':=Q1p hu1 hb2
 have hu2':=Q1p hu2 hb2
 have hB2:=Q0j hB hb2
 clear ho2 hu1 hu2 hB hb2 hcc x1 hgb
 go_wp2_with (go_step3)
 go_loopw [20] (fun v wr=>∃ i:Nat,i≤L.length∧v=.int .i64 i∧wr.heap[g1]? = some (.cells (blkI (cntL m.length (L.take i))) 3 (0,0))∧wr.heap[g2]? = some (.cells (blkI (bckL m.length (L.take i))) 3 (0,0))∧Kd.R (Kd.int .i64) 3 wr w11.heap.size (fun k=>w11.heap.size≤k) (.slice A3 L.length c3) L∧Below w.heap.size w wr) (fun v _=>L.length - (intV v).toNat)
 case atStart=>exact ⟨0,by omega,rfl,by rw [List.take_zero,Q9y];exact hu1',by rw [List.take_zero,Qdu];exact hu2',hRL,hB2⟩
 case round =>
  clear hu1' hu2' hRL hB2
  obtain ⟨i,hi,rfl,hu1,hu2,hRL,hB⟩:=hrel
  rcases Nat.lt_or_ge i L.length with hlt|hge
  ·have hii:(i:Int)<(L.length:Int):=by omega
   have hib:decide ((i:Int)<(L.length:Int))=true:=decide_eq_true hii
   obtain ⟨ad,eA,y0⟩:=Kd.Q2n (Kd.Q0w hRL).2.2 (i:Int) (by omega) hii
   subst eA
   rw [show rd L (i:Int)=L[i] by simp [rd,List.getD,List.getElem?_eq_getElem hlt],Int.toNat_natCast] at y0
   have htk:L.take (i+1)=L.take i++[L[i]]:=by rw [List.take_add_one,List.getElem?_eq_getElem hlt];rfl
   obtain ⟨hw1,hw2⟩:=hwf _ (List.getElem_mem hlt)
   have hcl:(L.take i).count L[i]≤20000:=Nat.le_trans List.count_le_length (by rw [List.length_take];omega)
   have hx:=not64' hw1 hw2
   have HTK:=AM htk
   clear htk
   generalize hk:L[i]=k at *
   clear hk
   by_cases h0:k<0
   ·obtain ⟨q,hq⟩:=Int.eq_ofNat_of_zero_le (show 0 ≤ -k - 1 by omega)
    rw [hq] at hx
    have hx2:Go.bits BinOp.xor IntKind.i64 (if IntKind.i64.signed=true then -1 else 9223372036854775807) k=(q:Int):=hx
    have h0b:decide (k<0)=true:=decide_eq_true h0
    have h0c:decide (0≤k)=false:=decide_eq_false (by omega)
    have HE:=AM (show k = -1 - (q:Int) by omega)
    have HC:=AM (show cntL m.length (L.take (i+1))=cntL m.length (L.take i) by rw [HTK.out];exact Q8e _ _ k (by omega))
    clear hq
    by_cases hqn:q<m.length
    ·have hqi:(q:Int)<(m.length:Int):=by omega
     have hqb:decide ((q:Int)<(m.length:Int))=true:=decide_eq_true hqi
     have hcu:wr.cell? ⟨g2,q,none⟩=some (.int .i64 (((L.take i).count k:Nat):Int)):=by
      rw [Q0v hu2 q]
      unfold blkI
      have:=Q5g m.length (L.take i) q hqn
      rw [← HE.out] at this
      simp [this,Q43,hqn]
      try rw [List.getElem?_eq_getElem (by rw [Q43];exact hqn),this]
      try rfl
     have hfz:=Q0k hu2 q
     have HCN:=AM (show bckL m.length (L.take (i+1))=(bckL m.length (L.take i)).set q ((((L.take i).count k:Nat):Int)+1) by rw [HTK.out];exact Qcv m.length (L.take i) k q hqn HE.out)
     generalize (L.take i).count k=cn at *
     go_wp2_with (go_step3)
     go_roundw
     case rel =>
      refine ⟨i+1,by omega,rfl,by rw [HC.out];exact Q2f hu1 hne _,?_,Kd.Q3p (p:=⟨g2,q,none⟩) hRL (fun k hk=>by show k≠g2;omega) _,Q2x hB (by show w.heap.size≤g2;omega)⟩
      rw [HCN.out,← Q7y]
      exact Q5c hu2 q _
     case measure=>simp [intV];omega
    ·have hqi:¬ (q:Int)<(m.length:Int):=by omega
     have hqb:decide ((q:Int)<(m.length:Int))=false:=decide_eq_false hqi
     have HC2:=AM (show bckL m.length (L.take (i+1))=bckL m.length (L.take i) by rw [HTK.out];exact Q83 _ _ k (by have:=HE.out;omega))
     go_wp2_with (go_step3)
     go_roundw
     case rel=>exact ⟨i+1,by omega,rfl,by rw [HC.out];exact hu1,by rw [HC2.out];exact hu2,hRL,hB⟩
     case measure=>simp [intV];omega
   ·obtain ⟨q,rfl⟩:=Int.eq_ofNat_of_zero_le (show 0≤k by omega)
    have HC:=AM (show bckL m.length (L.take (i+1))=bckL m.length (L.take i) by rw [HTK.out];exact Q83 _ _ _ (by omega))
    by_cases hqn:q<m.length
    ·have hqi:(q:Int)<(m.length:Int):=by omega
     have hqb:decide ((q:Int)<(m.length:Int))=true:=decide_eq_true hqi
     have hcu:wr.cell? ⟨g1,q,none⟩=some (.int .i64 (((L.take i).count (q:Int):Nat):Int)):=by
      rw [Q0v hu1 q]
      unfold blkI
      have:=Q46 m.length (L.take i) q hqn
      simp [this,Q3r,hqn]
      try rw [List.getElem?_eq_getElem (by rw [Q3r];exact hqn),this]
      try rfl
     have hfz:=Q0k hu1 q
     have HCN:=AM (show cntL m.length (L.take (i+1))=(cntL m.length (L.take i)).set q ((((L.take i).count (q:Int):Nat):Int)+1) by rw [HTK.out];exact Q87 m.length (L.take i) q hqn)
     generalize (L.take i).count (q:Int)=cn at *
     clear h0
     go_wp2_with (go_step3)
     go_roundw
     case rel =>
      refine ⟨i+1,by omega,rfl,?_,by rw [HC.out];exact Q2f hu2 (Ne.symm hne) _,Kd.Q3p (p:=⟨g1,q,none⟩) hRL (fun k hk=>by show k≠g1;omega) _,Q2x hB (by show w.heap.size≤g1;omega)⟩
      rw [HCN.out,← Q7y]
      exact Q5c hu1 q _
     case measure=>simp [intV];omega
    ·have hqi:¬ (q:Int)<(m.length:Int):=by omega
     have hqb:decide ((q:Int)<(m.length:Int))=false:=decide_eq_false hqi
     have HC2:=AM (show cntL m.length (L.take (i+1))=cntL m.length (L.take i) by rw [HTK.out];exact Q8e _ _ _ (by omega))
     clear h0
     go_wp2_with (go_step3)
     go_roundw
     case rel=>exact ⟨i+1,by omega,rfl,by rw [HC2.out];exact hu1,by rw [HC.out];exact hu2,hRL,hB⟩
     case measure=>simp [intV];omega
  ·have hii:¬ (i:Int)<(L.length:Int):=by omega
   have hib:decide ((i:Int)<(L.length:Int))=false:=decide_eq_false hii
   rw [List.take_of_length_le hge] at hu1 hu2
   go_wp2_with (go_step3)
   go_ret2
   exact ⟨g1,g2,rfl,hu1,hu2,hB⟩
def ringOk (m:List (List Pt)) (r:List (List Int)) (k:Nat):Bool:=decide ((ringAt m r (k:Int)).2=0)
def useOk (L:List Int) (k:Nat):Bool:=decide (L.count (k:Int)≤1∧L.count (-1 - (k:Int))≤1∧L.count (k:Int)+L.count (-1 - (k:Int))≠0)
def closesV (m:List (List Pt)) (r:List (List Int)):Bool:=(List.range r.length).all (ringOk m r)&&(List.range m.length).all (useOk r.flatten)
theorem Q94 {f:Nat→Bool} {n:Nat} (h:∀ j,j<n→f j=true):(List.range n).all f=true:=List.all_eq_true.2 fun x hx=>h x (List.mem_range.1 hx)
theorem Q76 {f:Nat→Bool} {n j:Nat} (hj:j<n) (h:f j=false):(List.range n).all f=false:=by
 rw [Bool.eq_false_iff]
 intro h2
 have:=List.all_eq_true.1 h2 j (List.mem_range.2 hj)
 rw [h] at this
 cases this
set_option maxHeartbeats 8000000 in
set_option maxRecDepth 100000 in
theorem Q8i (A0 A1 A2:Option Addr) (c0 c1 c2:Nat) (m:List (List Pt)) (r p:List (List Int)) (w:World) (hr0:Kd.C (Kd.slice 27 k27) w A0 m.length m) (hc0:m.length≤c0) (hr1:Kd.C (Kd.slice 3 (Kd.int .i64)) w A1 r.length r) (hc1:r.length≤c1) (hr2:Kd.C (Kd.slice 3 (Kd.int .i64)) w A2 p.length p) (hc2:p.length≤c2) (hs:Small m r) (hml:m.length≤1000000) :
  Calls Try.prog 13 #[.agg #[.slice A0 m.length c0,.slice A1 r.length c1,.slice A2 p.length c2]] w fun e w'=>e=.returned (.bool (closesV m r))∧Below w.heap.size w w':=by
 have hu25:=Try.underlying25
 have hring:∀ (k:Int) (W:World),Below w.heap.size w W→Calls Try.prog 33 #[.agg #[.slice A0 m.length c0,.slice A1 r.length c1,.slice A2 p.length c2],.int .i64 k] W fun e w'=>∃ v0_:Value,e=.returned (.tuple #[v0_,.int .i64 (ringAt m r k).2])∧Kd.R k27 27 w' W.heap.size (fun _=>True) v0_ (ringAt m r k).1∧Below W.heap.size W w':=by
  intro k W hW
  obtain ⟨K,hK⟩:=Q5r hs p k
  exact Q1u.calls K A0 c0 m A1 c1 r A2 c2 p k _ _ W (Kd.Q12 hr0 hW) hc0 (Kd.Q12 hr1 hW) hc1 (Kd.Q12 hr2 hW) hc2 (hK K (Nat.le_refl _))
 have huses:=fun W (h:Below w.heap.size w W)=>Qao A0 A1 A2 c0 c1 c2 m r p W (Kd.Q12 hr1 h) hs hml
 have hrl:=hs.rings
 have hfl:=hs.refs
 have HR:=AM (show closesV m r=((List.range r.length).all (ringOk m r)&&(List.range m.length).all (useOk r.flatten)) from rfl)
 generalize closesV m r=R at *
 generalize r.flatten=L at *
 have hcl:∀ x,L.count x≤20000:=fun x=>Nat.le_trans List.count_le_length hfl
 have HRING:=AM hring
 have HCL:=AM hcl
 clear hring hcl hr0 hr1 hr2
 go_enter Try.func13,Try.ntmps13
 have hba:Below w.heap.size w (w.alloc (.cells #[.slice A0 m.length c0,.slice A1 r.length c1,.slice A2 p.length c2] 25)):=(Below.refl _ w).alloc (Nat.le_refl _) _
 have hga:=heap_alloc_new w (.cells #[.slice A0 m.length c0,.slice A1 r.length c1,.slice A2 p.length c2] 25)
 go_upto_region 1 with (go_step3)
 generalize w.alloc (.cells #[.slice A0 m.length c0,.slice A1 r.length c1,.slice A2 p.length c2] 25)=W0 at hba hga ⊢
 have x0:W0.cell? ⟨w.heap.size,0,none⟩=some (.slice A0 m.length c0):=(Q0v hga 0).trans rfl
 have x1:W0.cell? ⟨w.heap.size,1,none⟩=some (.slice A1 r.length c1):=(Q0v hga 1).trans rfl
 have x2:W0.cell? ⟨w.heap.size,2,none⟩=some (.slice A2 p.length c2):=(Q0v hga 2).trans rfl
 go_wp2_with (go_step3)
 go_loopw [13] (fun v wr=>∃ i:Nat,i≤r.length∧v=.int .i64 i∧wr.heap[w.heap.size]? = some (.cells #[.slice A0 m.length c0,.slice A1 r.length c1,.slice A2 p.length c2] 25 (0,0))∧Aside0 (∀ j,j<i→ringOk m r j=true)∧Below w.heap.size w wr) (fun v _=>r.length - (intV v).toNat)
 case atStart=>exact ⟨0,by omega,rfl,hga,⟨fun j hj=>absurd hj (by omega)⟩,hba⟩
 case round =>
  clear x0 x1 x2 hga hba
  obtain ⟨i,hi,rfl,hg,HA,hB⟩:=hrel
  have x0:wr.cell? ⟨w.heap.size,0,none⟩=some (.slice A0 m.length c0):=(Q0v hg 0).trans rfl
  have x1:wr.cell? ⟨w.heap.size,1,none⟩=some (.slice A1 r.length c1):=(Q0v hg 1).trans rfl
  have x2:wr.cell? ⟨w.heap.size,2,none⟩=some (.slice A2 p.length c2):=(Q0v hg 2).trans rfl
  rcases Nat.lt_or_ge i r.length with hlt|hge
  ·have hii:(i:Int)<(r.length:Int):=by omega
   have hib:decide ((i:Int)<(r.length:Int))=true:=decide_eq_true hii
   have hr:=HRING.out (i:Int) wr hB
   have HOK:=AM (show ringOk m r i=decide ((ringAt m r (i:Int)).2=0) from rfl)
   generalize ringAt m r (i:Int)=q at *
   obtain ⟨l,e⟩:=q
   simp only at hr HOK
   by_cases he:e=0
   ·have HN:=AM (show ∀ j,j<i+1→ringOk m r j=true from fun j hj=>by
     rcases Nat.lt_or_ge j i with h|h
     ·exact HA.out j h
     ·rw [show j=i by omega,HOK.out];exact decide_eq_true he)
    subst he
    go_wp2_with (first|(go_at_call 33;refine hr.mono ?_;rintro ee w2 ⟨v2,rfl,ho2,hb2⟩)|go_step3)
    go_roundw
    case rel=>exact ⟨i+1,by omega,rfl,Q1p hg hb2,HN,Q0j hB hb2⟩
    case measure=>simp [intV];omega
   ·have heb:(e != 0)=true:=by simpa using he
    have HRF:=AM (show R=false by rw [HR.out,Q76 hlt (by rw [HOK.out];exact decide_eq_false he),Bool.false_and])
    go_wp2_with (first|(go_at_call 33;refine hr.mono ?_;rintro ee w2 ⟨v2,rfl,ho2,hb2⟩)|go_step3)
    go_ret
    exact ⟨by rw [HRF.out];rfl,Q0j hB hb2⟩
  ·have hii:¬ (i:Int)<(r.length:Int):=by omega
   have hib:decide ((i:Int)<(r.length:Int))=false:=decide_eq_false hii
   have HR2:=AM (show R=(List.range m.length).all (useOk L) by rw [HR.out,Q94 (fun j hj=>HA.out j (by omega)),Bool.true_and])
   have hus:=huses wr hB
   clear huses HA
   go_upto_region 9 with (first|(go_at_call 37;refine hus.mono ?_;rintro ee w2 ⟨g1,g2,rfl,hu1,hu2,hb2⟩)|go_step3)
   clear hus x0 x1 x2
   have hB2:=Q0j hB hb2
   clear hb2 hB
   go_wp2_with (go_step3)
   go_loop [32] (fun v=>∃ i:Nat,i≤m.length∧v=.int .i64 i∧Aside0 (∀ j,j<i→useOk L j=true)) (fun v=>m.length - (intV v).toNat)
   case atStart=>exact ⟨0,by omega,rfl,⟨fun j hj=>absurd hj (by omega)⟩⟩
   case round =>
    obtain ⟨i,hi,rfl,HA⟩:=hrel
    rcases Nat.lt_or_ge i m.length with hlt|hge
    ·have hii:(i:Int)<(m.length:Int):=by omega
     have hib:decide ((i:Int)<(m.length:Int))=true:=decide_eq_true hii
     have hcu:w2.cell? ⟨g1,i,none⟩=some (.int .i64 ((L.count (i:Int):Nat):Int)):=by
      rw [Q0v hu1 i]
      unfold blkI
      have:=Q46 m.length L i hlt
      simp [this,Q3r,hlt]
      try rw [List.getElem?_eq_getElem (by rw [Q3r];exact hlt),this]
      try rfl
     have hcv:w2.cell? ⟨g2,i,none⟩=some (.int .i64 ((L.count (-1 - (i:Int)):Nat):Int)):=by
      rw [Q0v hu2 i]
      unfold blkI
      have:=Q5g m.length L i hlt
      simp [this,Q43,hlt]
      try rw [List.getElem?_eq_getElem (by rw [Q43];exact hlt),this]
      try rfl
     have h1:=HCL.out (i:Int)
     have h2:=HCL.out (-1 - (i:Int))
     have HU:=AM (show useOk L i=decide (L.count (i:Int)≤1∧L.count (-1 - (i:Int))≤1∧L.count (i:Int)+L.count (-1 - (i:Int))≠0) from rfl)
     generalize L.count (i:Int)=a at *
     generalize L.count (-1 - (i:Int))=b at *
     by_cases ha:(a:Int)>1
     ·have HRF:=AM (show R=false by rw [HR2.out,Q76 hlt (by rw [HU.out];exact decide_eq_false (by omega))])
      go_wp2_with (go_step3)
      go_ret
      exact ⟨by rw [HRF.out];rfl,hB2⟩
     ·by_cases hb:(b:Int)>1
      ·have HRF:=AM (show R=false by rw [HR2.out,Q76 hlt (by rw [HU.out];exact decide_eq_false (by omega))])
       go_wp2_with (go_step3)
       go_ret
       exact ⟨by rw [HRF.out];rfl,hB2⟩
      ·by_cases hab:(a:Int)+(b:Int)=0
       ·have HRF:=AM (show R=false by rw [HR2.out,Q76 hlt (by rw [HU.out];exact decide_eq_false (by omega))])
        have hsb:((a:Int)+(b:Int)==0)=true:=by rw [hab];rfl
        clear hab HU
        go_wp2_with (go_step3)
        go_ret
        exact ⟨by rw [HRF.out];rfl,hB2⟩
       ·have HN:=AM (show ∀ j,j<i+1→useOk L j=true from fun j hj=>by
         rcases Nat.lt_or_ge j i with h|h
         ·exact HA.out j h
         ·rw [show j=i by omega,HU.out];exact decide_eq_true (by omega))
        have hsb:((a:Int)+(b:Int)==0)=false:=by simpa using hab
        clear hab HU
        go_wp2_with (go_step3)
        go_round
        case rel=>exact ⟨i+1,by omega,rfl,HN⟩
        case measure=>simp [intV];omega
    ·have hii:¬ (i:Int)<(m.length:Int):=by omega
     have hib:decide ((i:Int)<(m.length:Int))=false:=decide_eq_false hii
     have HRF:=AM (show R=true by rw [HR2.out];exact Q94 (fun j hj=>HA.out j (by omega)))
     go_wp2_with (go_step3)
     go_ret
     exact ⟨by rw [HRF.out];rfl,hB2⟩
end Go.Proofs.Ytbonkedecfjmdaa.Pl
