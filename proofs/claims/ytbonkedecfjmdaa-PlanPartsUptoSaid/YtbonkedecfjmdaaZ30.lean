/- Rings: whether a point lies in one, as the document's function answers. What the document says of rings that close and of polygons that fill: the values. No condition. What the document says of polygons that fill: the values. No condition. What is long, and what the example fixes: the values. No condition. -/
import Derived.Test.YtbonkedecfjmdaaZ9
import Derived.Test.YtbonkedecfjmdaaZ19
import Derived.Test.YtbonkedecfjmdaaZ29
import Derived.Test.YtbonkedecfjmdaaZ24
import Derived.Test.YtbonkedecfjmdaaZ28
import Derived.Test.YtbonkedecfjmdaaZ5
import Derived.Test.YtbonkedecfjmdaaZ11
import Derived.Test.YtbonkedecfjmdaaZ10
import Derived.Test.YtbonkedecfjmdaaZ7
import Derived.Test.YtbonkedecfjmdaaZ4
import Derived.Test.YtbonkedecfjmdaaZ3
import Derived.Test.YtbonkedecfjmdaaZ22

namespace Go.Proofs.Ytbonkedecfjmdaa.G
set_option linter.unusedVariables false
set_option linter.unusedSimpArgs false
open Go.RowKit Go.Proofs.Ytbonkedecfjmdaa.P Go.Proofs.Ytbonkedecfjmdaa.X Go.Proofs.Ytbonkedecfjmdaa.WL Go.Proofs.YtbonkedecfjmdaaW.PrintWords Go.Proofs.YtbonkedecfjmdaaW.PrintLast Go.Proofs.YtbonkedecfjmdaaW.PrintMore
theorem rIn_l0 (p : Pt) (hp : rt p = true) (l : List Pt) (hl : l.length < 4000000000000000000) (hr : l.all rt = true) : ∀ (n i : Nat) (c : Nat), i + n = l.length → c ≤ i →
  Ev (fun k => rf09_In.l0 k l (c : Int) (i : Int) p.f0 p.f1 p.f2) (tell p ((edg l).drop i) (if c % 2 = 1 then 1 else -1)) := by
 intro n
 induction n with
 | zero =>
  intro i c hi hc
  rw [List.drop_of_length_le (by rw [edg_len]; omega), tell_nil]
  have ht : Int.tmod (c : Int) 2 = ((c % 2 : Nat) : Int) := by rw [Int.tmod_eq_emod_of_nonneg (by omega)]; rfl
  refine Ev.step (f := fun _ => some (if c % 2 = 1 then 1 else -1)) (fun k => ?_) (Ev.now _)
  simp only [rf09_In.l0]; rw [if_neg (by omega), ht]
  by_cases hm : c % 2 = 1
  ·rw [if_pos hm, if_pos (by omega)]
  ·rw [if_neg hm, if_neg (by omega)]
 | succ n ih =>
  intro i c hi hc
  have hA : i < l.length := by omega
  have hM : (i + 1) % l.length < l.length := Nat.mod_lt _ (by omega)
  have hE : i < (edg l).length := by rw [edg_len]; exact hA
  have q1 : (i : Int) < (l.length : Int) := by omega
  have ws : wrap64 ((i : Int) + 1) = ((i + 1 : Nat) : Int) := w64_succ i (by omega)
  have wc : wrap64 ((c : Int) + 1) = ((c + 1 : Nat) : Int) := w64_succ c (by omega)
  rw [List.drop_eq_getElem_cons hE, edg_get l i hA]
  have ra := all_get hr i hA
  have rb := all_get hr _ hM
  have hrd1 : rd_T27 l (i : Int) = l[i] := rdp l i hA
  have hrd2 : rd_T27 l (((i + 1) % l.length : Nat) : Int) = l[(i + 1) % l.length] := rdp l _ hM
  have I1 := ih (i + 1) c (by omega) (by omega)
  have I2 := ih (i + 1) (c + 1) (by omega) (by omega)
  rw [show (if (c + 1) % 2 = 1 then (1 : Int) else -1) = -(if c % 2 = 1 then 1 else -1) by
   by_cases hm : c % 2 = 1
   ·rw [if_pos hm, if_neg (by omega)]
   ·rw [if_neg hm, if_pos (by omega)]; rfl] at I2
  generalize (if c % 2 = 1 then (1 : Int) else -1) = s at *
  have J : ∀ a b : Pt, rt a = true → rt b = true → Ev (fun k => rf09_In.j2 k l (c : Int) (i : Int) p.f0 p.f1 p.f2 a.f0 a.f1 a.f2 b.f0 b.f1 b.f2) (tell p ((a, b) :: (edg l).drop (i + 1)) s) := by
   intro a b ra rb
   have T := rTurn_ev a b p
   rw [ra, rb, hp] at T
   simp only [Bool.and_self, if_true] at T
   refine Ev.step (f := fun k => (rf09_On.f k p.f0 p.f1 p.f2 a.f0 a.f1 a.f2 b.f0 b.f1 b.f2).bind fun t554 => (if t554 = true then (some 0) else (rf09_In.j3 k l (c : Int) (i : Int) (decide (a.f1 ≤ p.f1 ∧ p.f1 < b.f1)) p.f0 p.f1 p.f2 a.f0 a.f1 a.f2 b.f0 b.f1 b.f2))) (fun k => ?_) ?_
   ·simp only [rf09_In.j2]
    congr 1; funext t
    by_cases h1 : a.f1 ≤ p.f1 <;> simp [h1]
   ·refine Ev.bind (rOn_ev p a b) ?_
    by_cases ho : onB p a b = true
    ·simp only [if_pos ho]
     rw [tell_on (show onE p (a, b) = true from ho)]
     exact Ev.now _
    ·simp only [if_neg ho]
     have ho' : onE p (a, b) = false := Bool.eq_false_iff.2 ho
     refine Ev.step (f := fun k => rf09_In.j4 k l (c : Int) (i : Int) (decide (a.f1 ≤ p.f1 ∧ p.f1 < b.f1)) (decide (b.f1 ≤ p.f1 ∧ p.f1 < a.f1)) p.f0 p.f1 p.f2 a.f0 a.f1 a.f2 b.f0 b.f1 b.f2) (fun k => by
      simp only [rf09_In.j3]
      by_cases h1 : b.f1 ≤ p.f1 <;> simp [h1]) ?_
     by_cases hu : a.f1 ≤ p.f1 ∧ p.f1 < b.f1
     ·have hd : ¬ (b.f1 ≤ p.f1 ∧ p.f1 < a.f1) := by omega
      refine Ev.step (f := fun k => (rf09_Turn.f k a.f0 a.f1 a.f2 b.f0 b.f1 b.f2 p.f0 p.f1 p.f2).bind fun t555 => (if t555 > 0 then (rf09_In.l0 k l ((c + 1 : Nat) : Int) ((i + 1 : Nat) : Int) p.f0 p.f1 p.f2) else (rf09_In.l0 k l (c : Int) ((i + 1 : Nat) : Int) p.f0 p.f1 p.f2))) (fun k => by
       simp only [rf09_In.j4, hu, hd, and_self, decide_true, decide_false, if_true, Bool.false_eq_true, if_false, ws, wc]) ?_
      refine Ev.bind T ?_
      by_cases ht : side a b p > 0
      ·simp only [if_pos ht]
       rw [tell_cr ho' (by unfold cr; simp only [Bool.or_eq_true, decide_eq_true_eq]; omega)]
       exact I2
      ·simp only [if_neg ht]
       rw [tell_no ho' (by unfold cr; simp only [Bool.or_eq_false_iff, decide_eq_false_iff_not]; omega)]
       exact I1
     ·by_cases hd : b.f1 ≤ p.f1 ∧ p.f1 < a.f1
      ·refine Ev.step (f := fun k => (rf09_Turn.f k a.f0 a.f1 a.f2 b.f0 b.f1 b.f2 p.f0 p.f1 p.f2).bind fun t557 => (if t557 < 0 then (rf09_In.l0 k l ((c + 1 : Nat) : Int) ((i + 1 : Nat) : Int) p.f0 p.f1 p.f2) else (rf09_In.l0 k l (c : Int) ((i + 1 : Nat) : Int) p.f0 p.f1 p.f2))) (fun k => by
        simp only [rf09_In.j4, hu, hd, and_self, decide_true, decide_false, if_true, Bool.false_eq_true, if_false, ws, wc]) ?_
       refine Ev.bind T ?_
       by_cases ht : side a b p < 0
       ·simp only [if_pos ht]
        rw [tell_cr ho' (by unfold cr; simp only [Bool.or_eq_true, decide_eq_true_eq]; omega)]
        exact I2
       ·simp only [if_neg ht]
        rw [tell_no ho' (by unfold cr; simp only [Bool.or_eq_false_iff, decide_eq_false_iff_not]; omega)]
        exact I1
      ·refine Ev.step (f := fun k => rf09_In.l0 k l (c : Int) ((i + 1 : Nat) : Int) p.f0 p.f1 p.f2) (fun k => by
        simp only [rf09_In.j4, hu, hd, decide_false, Bool.false_eq_true, if_false, ws]) ?_
       rw [tell_no ho' (by unfold cr; simp only [Bool.or_eq_false_iff, decide_eq_false_iff_not]; omega)]
       exact I1
  have J' := J _ _ ra rb
  refine Ev.step (fun k => ?_) J'
  simp only [rf09_In.l0]
  rw [if_pos q1, if_pos (by omega), if_pos (by omega), ws, hrd1]
  by_cases hlast : i + 1 < l.length
  ·have e : (i + 1) % l.length = i + 1 := Nat.mod_eq_of_lt hlast
   simp only [e] at hrd2 ⊢
   rw [if_pos (by omega), if_pos (by omega), hrd2]
  ·have e : (i + 1) % l.length = 0 := by rw [show i + 1 = l.length by omega, Nat.mod_self]
   simp only [e] at hrd2 ⊢
   rw [if_neg (by omega)]
   rw [show rd_T27 l 0 = rd_T27 l ((0 : Nat) : Int) from rfl, hrd2]
theorem rIn_ev (p : Pt) (l : List Pt) (hl : l.length < 4000000000000000000) : Ev (fun k => rf09_In.f k p.f0 p.f1 p.f2 l) (inV p l) := by
 unfold rf09_In.f
 refine Ev.bind (rRight_ev [p] (by simp)) ?_
 simp only [List.all_cons, List.all_nil, Bool.and_true]
 have jt : Ev (fun k => rf09_In.j0 k l true p.f0 p.f1 p.f2) 0 := Ev.step (f := fun _ => some 0) (fun k => by simp only [rf09_In.j0, if_true]) (Ev.now _)
 unfold inV
 by_cases h : rt p = true
 ·simp only [if_pos h, h, Bool.true_and]
  refine Ev.bind (rRight_ev l (by omega)) ?_
  by_cases h2 : l.all rt = true
  ·simp only [h2, Bool.not_true, if_true]
   have := rIn_l0 p h l hl h2 l.length 0 0 (by omega) (by omega)
   rw [List.drop_zero] at this
   refine Ev.step (fun k => ?_) this
   simp only [rf09_In.j0, Bool.false_eq_true, if_false]; rfl
  ·simp only [h2, Bool.not_false, Bool.false_eq_true, if_false]; exact jt
 ·simp only [if_neg h, h, Bool.false_and, Bool.false_eq_true, if_false]; exact jt
end Go.Proofs.Ytbonkedecfjmdaa.G

namespace Go.Proofs.Ytbonkedecfjmdaa.Pl
set_option linter.unusedVariables false
set_option linter.unusedSimpArgs false
open Go.RowKit Go.Proofs.Ytbonkedecfjmdaa.P Go.Proofs.Ytbonkedecfjmdaa.G Go.Proofs.Ytbonkedecfjmdaa.WL Go.Proofs.YtbonkedecfjmdaaW.PrintWords Go.Proofs.YtbonkedecfjmdaaW.PrintLast Go.Proofs.YtbonkedecfjmdaaW.PrintMore
theorem rdL3 (l : List (List Int)) (i : Nat) (h : i < l.length) : rd_L3 l (i : Int) = l[i] := by simp [rd_L3, List.getD, List.getElem?_eq_getElem h]
theorem rdI (l : List Int) (i : Nat) (h : i < l.length) : rd l (i : Int) = l[i] := by simp [rd, List.getD, List.getElem?_eq_getElem h]
theorem uses_l1 (m : List (List Pt)) (r p : List (List Int)) (n : Int) (i : Nat) (hi : i < r.length) (hb : r[i].length ≤ 100000000) (R : Int) : ∀ d j c : Nat, j + d = r[i].length → c + d ≤ 100000000 →
  Ev (fun k => rf16_Uses.l0 k n ((c + (r[i].drop j).count n : Nat) : Int) (wrap64 ((i : Int) + 1)) m r p) R → Ev (fun k => rf16_Uses.l1 k n (c : Int) (i : Int) (j : Int) m r p) R := by
 intro d
 induction d with
 | zero =>
  intro j c hj hc h
  rw [List.drop_of_length_le (by omega), List.count_nil, Nat.add_zero] at h
  refine Ev.step (fun k => ?_) h
  simp only [rf16_Uses.l1]
  rw [if_pos (by omega), if_pos (by omega), rdL3 r i hi, if_neg (by omega)]
 | succ d ih =>
  intro j c hj hc h
  have hlt : j < r[i].length := by omega
  rw [List.drop_eq_getElem_cons hlt, List.count_cons] at h
  by_cases e : r[i][j] = n
  ·refine Ev.step (f := fun k => rf16_Uses.l1 k n ((c + 1 : Nat) : Int) (i : Int) ((j + 1 : Nat) : Int) m r p) (fun k => ?_) (ih (j + 1) (c + 1) (by omega) (by omega) ?_)
   ·conv => lhs; simp only [rf16_Uses.l1]
    rw [if_pos (by omega), if_pos (by omega), rdL3 r i hi, if_pos (by omega), if_pos (by omega), rdI _ j hlt, if_pos e, nxt c (by omega), nxt j (by omega)]
   ·have e2 : (c + 1 + (r[i].drop (j + 1)).count n : Nat) = c + ((r[i].drop (j + 1)).count n + if (r[i][j] == n) = true then 1 else 0) := by rw [if_pos (by simpa using e)]; omega
    rw [e2]
    exact h
  ·refine Ev.step (f := fun k => rf16_Uses.l1 k n (c : Int) (i : Int) ((j + 1 : Nat) : Int) m r p) (fun k => ?_) (ih (j + 1) c (by omega) (by omega) ?_)
   ·conv => lhs; simp only [rf16_Uses.l1]
    rw [if_pos (by omega), if_pos (by omega), rdL3 r i hi, if_pos (by omega), if_pos (by omega), rdI _ j hlt, if_neg e, nxt j (by omega)]
   ·have e2 : (c + (r[i].drop (j + 1)).count n : Nat) = c + ((r[i].drop (j + 1)).count n + if (r[i][j] == n) = true then 1 else 0) := by rw [if_neg (by simpa using e)]; omega
    rw [e2]
    exact h
theorem uses_l0 (m : List (List Pt)) (r p : List (List Int)) (n : Int) (hr : r.length ≤ 100000000) (hf : r.flatten.length ≤ 50000000) : ∀ d i c : Nat, i + d = r.length → c + (r.drop i).flatten.length ≤ 100000000 →
  Ev (fun k => rf16_Uses.l0 k n (c : Int) (i : Int) m r p) (((c + (r.drop i).flatten.count n : Nat)) : Int) := by
 intro d
 induction d with
 | zero =>
  intro i c hi hc
  rw [List.drop_of_length_le (by omega)]
  refine Ev.step (f := fun _ => some (c : Int)) (fun k => ?_) (Ev.now _)
  simp only [rf16_Uses.l0]
  rw [if_neg (by omega)]
 | succ d ih =>
  intro i c hi hc
  have hlt : i < r.length := by omega
  have hx := flat_mem_len r r[i] (List.getElem_mem hlt)
  rw [List.drop_eq_getElem_cons hlt, List.flatten_cons, List.length_append] at hc
  rw [List.drop_eq_getElem_cons hlt, List.flatten_cons, List.count_append, ← Nat.add_assoc]
  have hcl : r[i].count n ≤ r[i].length := List.count_le_length
  refine Ev.step (f := fun k => rf16_Uses.l1 k n (c : Int) (i : Int) ((0 : Nat) : Int) m r p) (fun k => ?_) (uses_l1 m r p n i hlt (by omega) _ r[i].length 0 c (by omega) (by omega) ?_)
  ·conv => lhs; simp only [rf16_Uses.l0]
   rw [if_pos (by omega)]
   rfl
  ·rw [List.drop_zero, nxt i (by omega)]
   exact ih (i + 1) _ (by omega) (by omega)
theorem uses_ev (m : List (List Pt)) (r p : List (List Int)) (n : Int) (hr : r.length ≤ 100000000) (hf : r.flatten.length ≤ 50000000) : Ev (fun k => rf16_Uses.f k m r p n) ((r.flatten.count n : Nat) : Int) := by
 have h := uses_l0 m r p n hr hf r.length 0 0 (by omega) (by rw [List.drop_zero]; omega)
 rw [List.drop_zero, Nat.zero_add] at h
 unfold rf16_Uses.f
 exact h
theorem ringAt_in (m : List (List Pt)) (r : List (List Int)) (i : Nat) (h : i < r.length) : ringAt m r (i : Int) = Gr.ptsV m [] r[i] := by
 unfold ringAt
 rw [if_neg (by omega), Int.toNat_natCast, show r.getD i [] = r[i] by simp [List.getD, List.getElem?_eq_getElem h]]
theorem rpt_ev {m : List (List Pt)} {r : List (List Int)} (hs : Small m r) (p : List (List Int)) (i : Nat) (h : i < r.length) : Ev (fun k => rf16_Points.f k m r p r[i]) (ringAt m r (i : Int)) := by
 obtain ⟨b1, b2, b3⟩ := row_small hs i h
 rw [ringAt_in m r i h]
 exact Gr.rpoints_ev m r p 20000 (by decide) hs.arcs r[i] (by omega) b3 b2
theorem closes_l1 {m : List (List Pt)} {r : List (List Int)} (hs : Small m r) (p : List (List Int)) (hm : m.length ≤ 1000000) : ∀ d i : Nat, i + d = m.length → Ev (fun k => rf17_Closes.l1 k (i : Int) m r p) ((List.range' i d).all (useOk r.flatten)) := by
 have hrl := hs.rings
 have hrf := hs.refs
 intro d
 induction d with
 | zero =>
  intro i hi
  refine Ev.step (f := fun _ => some true) (fun k => ?_) (Ev.now _)
  simp only [rf17_Closes.l1]
  rw [if_neg (by omega)]
 | succ d ih =>
  intro i hi
  have c1 : r.flatten.count (i : Int) ≤ 20000 := Nat.le_trans List.count_le_length hrf
  have c2 : r.flatten.count (-1 - (i : Int)) ≤ 20000 := Nat.le_trans List.count_le_length hrf
  have u1 := uses_ev m r p (i : Int) (by omega) (by omega)
  have u2 := uses_ev m r p (-1 - (i : Int)) (by omega) (by omega)
  have ih := ih (i + 1) (by omega)
  rw [List.range'_succ, List.all_cons]
  unfold useOk at ih ⊢
  generalize r.flatten.count (i : Int) = a at *
  generalize r.flatten.count (-1 - (i : Int)) = b at *
  refine Ev.step (fun k => rf17_Closes.l1.eq_2 _ _ _ _ _) ?_
  simp only [if_pos (show (i : Int) < (m.length : Int) by omega)]
  refine Ev.bind u1 ?_
  have ew : wrap64 ((-1) - (i : Int)) = -1 - (i : Int) := by unfold wrap64; omega
  have ew2 : wrap64 ((a : Int) + (b : Int)) = (a : Int) + (b : Int) := by unfold wrap64; omega
  simp only [ew]
  refine Ev.bind u2 ?_
  simp only [ew2, nxt i (by omega)]
  by_cases h1 : (a : Int) > 1
  ·simp only [if_pos h1]
   rw [decide_eq_false (by omega), Bool.false_and]
   exact Ev.now _
  ·simp only [if_neg h1]
   by_cases h2 : (b : Int) > 1
   ·simp only [if_pos h2]
    rw [decide_eq_false (by omega), Bool.false_and]
    exact Ev.now _
   ·simp only [if_neg h2]
    by_cases h3 : (a : Int) + (b : Int) = 0
    ·simp only [if_pos h3]
     rw [decide_eq_false (by omega), Bool.false_and]
     exact Ev.now _
    ·simp only [if_neg h3]
     rw [decide_eq_true (by omega), Bool.true_and]
     exact ih
theorem closes_l0 {m : List (List Pt)} {r : List (List Int)} (hs : Small m r) (p : List (List Int)) (hm : m.length ≤ 1000000) : ∀ d i : Nat, i + d = r.length → Ev (fun k => rf17_Closes.l0 k (i : Int) m r p) ((List.range' i d).all (ringOk m r) && (List.range' 0 m.length).all (useOk r.flatten)) := by
 have hrl := hs.rings
 intro d
 induction d with
 | zero =>
  intro i hi
  refine Ev.step (fun k => ?_) (closes_l1 hs p hm m.length 0 (by omega))
  simp only [rf17_Closes.l0]
  rw [if_neg (by omega)]
  rfl
 | succ d ih =>
  intro i hi
  have hlt : i < r.length := by omega
  have ih := ih (i + 1) (by omega)
  rw [List.range'_succ, List.all_cons]
  refine Ev.step (fun k => rf17_Closes.l0.eq_2 _ _ _ _ _) ?_
  simp only [if_pos (show (i : Int) < (r.length : Int) by omega), if_pos (show 0 ≤ (i : Int) by omega), rdL3 r i hlt, nxt i (by omega)]
  refine Ev.bind (rpt_ev hs p i hlt) ?_
  unfold ringOk at ih ⊢
  by_cases h : (ringAt m r (i : Int)).2 = 0
  ·simp only [if_pos h]
   rw [decide_eq_true h, Bool.true_and]
   exact ih
  ·simp only [if_neg h]
   rw [decide_eq_false h, Bool.false_and, Bool.false_and]
   exact Ev.now _
theorem rcloses_ev {m : List (List Pt)} {r : List (List Int)} (hs : Small m r) (p : List (List Int)) (hm : m.length ≤ 1000000) : Ev (fun k => rf17_Closes.f k m r p) (closesV m r) := by
 have h := closes_l0 hs p hm r.length 0 (by omega)
 unfold closesV
 rw [List.range_eq_range', List.range_eq_range']
 unfold rf17_Closes.f
 exact h

theorem cmp3_cases (a b : Int) : cmp3 a b = -1 ∨ cmp3 a b = 0 ∨ cmp3 a b = 1 := by
 unfold cmp3
 by_cases h : a < b
 ·exact .inl (if_pos h)
 ·rw [if_neg h]
  by_cases h2 : b < a
  ·exact .inr (.inr (if_pos h2))
  ·exact .inr (.inl (if_neg h2))
theorem inV_neg (p : Pt) (l : List Pt) : inV p l < 0 ↔ inV p l = -1 := by
 unfold inV
 split
 ·unfold tell
  split
  ·decide
  ·split <;> decide
 ·decide
theorem area_ev {m : List (List Pt)} {r : List (List Int)} (hs : Small m r) (p : List (List Int)) (i : Nat) (h : i < r.length) : Ev (fun k => rf17_Area.f k m r p (i : Int)) (dig (areaV (ringAt m r (i : Int)).1)) := by
 have hl := ringAt_len hs (i : Int)
 unfold rf17_Area.f
 simp only [if_pos (show 0 ≤ (i : Int) by omega), if_pos (show (i : Int) < (r.length : Int) by omega), rdL3 r i h]
 refine Ev.bind (rpt_ev hs p i h) ?_
 exact Ev.bind (rArea_val _ (by omega)) (Ev.now _)
theorem zero_ev : Ev (fun k => rf08_Of.f k 0) (dig 0) := Of_ev (by omega) (by omega)
theorem fills_l1 {m : List (List Pt)} {r : List (List Int)} (p : List (List Int)) (poly : List Int) (i : Nat) (l O : List Pt) (hl : l.length < 5864062014805) (hO : O.length < 5864062014805) (R : Bool)
  (next : Ev (fun k => rf17_fills.l0 k poly (wrap64 ((i : Int) + 1)) m r p) R) : ∀ d j : Nat, j + d = l.length →
  Ev (fun k => rf17_fills.l1 k poly (i : Int) l O (j : Int) m r p) (if 0 < i ∧ (l.drop j).any (fun x => decide (inV x O < 0)) = true then false else R) := by
 intro d
 induction d with
 | zero =>
  intro j hj
  rw [List.drop_of_length_le (by omega), List.any_nil, if_neg (by simp)]
  refine Ev.step (fun k => rf17_fills.l1.eq_2 _ _ _ _ _ _ _ _ _) ?_
  simp only [if_neg (show ¬ (j : Int) < (l.length : Int) by omega)]
  refine Ev.step (fun k => rf17_fills.j4.eq_2 _ _ _ _ _ _ _ _ _ _) ?_
  simp only [Bool.false_eq_true, if_false]
  exact next
 | succ d ih =>
  intro j hj
  have hlt : j < l.length := by omega
  have ih := ih (j + 1) (by omega)
  refine Ev.step (fun k => rf17_fills.l1.eq_2 _ _ _ _ _ _ _ _ _) ?_
  simp only [if_pos (show (j : Int) < (l.length : Int) by omega)]
  by_cases hi : 0 < i
  ·rw [decide_eq_true (show (i : Int) > 0 by omega)]
   refine Ev.step (fun k => rf17_fills.j4.eq_2 _ _ _ _ _ _ _ _ _ _) ?_
   simp only [if_pos rfl, if_pos (show 0 ≤ (j : Int) by omega), if_pos (show (j : Int) < (l.length : Int) by omega), Gr.rdp l j hlt]
   refine Ev.bind (rIn_ev l[j] O (by omega)) ?_
   rw [List.drop_eq_getElem_cons hlt, List.any_cons]
   have ew : wrap64 ((j : Int) + 1) = ((j + 1 : Nat) : Int) := by unfold wrap64; omega
   by_cases hin : inV l[j] O = -1
   ·simp only [if_pos hin]
    rw [if_pos ⟨hi, by rw [decide_eq_true ((inV_neg _ _).2 hin)]; rfl⟩]
    exact Ev.now _
   ·simp only [if_neg hin, ew]
    rw [decide_eq_false (fun h => hin ((inV_neg _ _).1 h)), Bool.false_or]
    exact ih
  ·rw [decide_eq_false (show ¬ (i : Int) > 0 by omega), if_neg (fun h => hi h.1)]
   refine Ev.step (fun k => rf17_fills.j4.eq_2 _ _ _ _ _ _ _ _ _ _) ?_
   simp only [Bool.false_eq_true, if_false]
   exact next
theorem fills_step {m : List (List Pt)} {r : List (List Int)} (hs : Small m r) (p : List (List Int)) (poly : List Int) (i : Nat) (hi : i < poly.length) (hpl : poly.length ≤ 100000000) (h0 : ∃ q : Nat, q < r.length ∧ poly[0]'(by omega) = (q : Int)) (R : Bool)
  (next : (ringAt m r poly[i]).2 = 0 → Ev (fun k => rf17_fills.l0 k poly ((i + 1 : Nat) : Int) m r p) R) (q : Nat) (hq : q < r.length) (e : poly[i] = (q : Int)) :
  Ev (fun k => rf17_fills.l0 k poly (i : Int) m r p) (if (ringAt m r poly[i]).2 ≠ 0 then false else if i = 0 ∧ signV (ringAt m r poly[i]).1 ≠ 1 then false else if 0 < i ∧ signV (ringAt m r poly[i]).1 ≠ -1 then false else if 0 < i ∧ (ringAt m r poly[i]).1.any (fun x => decide (inV x (ringAt m r (poly[0]'(by omega))).1 < 0)) = true then false else R) := by
 obtain ⟨z, hz, ez⟩ := h0
 have hlen := ringAt_len hs (q : Int)
 have hlen0 := ringAt_len hs (z : Int)
 have er : rd poly (i : Int) = (q : Int) := by rw [rdI poly i hi, e]
 have er0 : rd poly 0 = (z : Int) := by rw [show (0 : Int) = ((0 : Nat) : Int) from rfl, rdI poly 0 (by omega), ez]
 rw [e] at next
 rw [e, ez]
 refine Ev.step (fun k => rf17_fills.l0.eq_2 _ _ _ _ _ _) ?_
 simp only [if_pos (show (i : Int) < (poly.length : Int) by omega), if_pos (show 0 ≤ (i : Int) by omega), er, if_neg (show ¬ (q : Int) < 0 by omega), decide_eq_false (show ¬ (q : Int) ≥ (r.length : Int) by omega)]
 refine Ev.step (fun k => rf17_fills.j1.eq_2 _ _ _ _ _ _ _) ?_
 simp only [Bool.false_eq_true, if_false, if_pos (show (i : Int) < (poly.length : Int) by omega), if_pos (show 0 ≤ (i : Int) by omega), er, if_pos (show 0 ≤ (q : Int) by omega), if_pos (show (q : Int) < (r.length : Int) by omega), rdL3 r q hq]
 refine Ev.bind (rpt_ev hs p q hq) ?_
 by_cases h : (ringAt m r (q : Int)).2 = 0
 ·simp only [if_pos h]
  rw [if_neg (by simpa using h)]
  refine Ev.bind (area_ev hs p q hq) ?_
  refine Ev.bind zero_ev ?_
  refine Ev.bind (Cmp_ev _ _) ?_
  have hsv : cmp3 (off (areaV (ringAt m r (q : Int)).1)) (off 0) = signV (ringAt m r (q : Int)).1 := rfl
  simp only [hsv]
  have j2 : ∀ b : Bool, Ev (fun k => rf17_fills.j2 k poly (i : Int) (ringAt m r (q : Int)).1 b m r p) (if b = true then false else if 0 < i ∧ (ringAt m r (q : Int)).1.any (fun x => decide (inV x (ringAt m r (z : Int)).1 < 0)) = true then false else R) := by
   intro b
   refine Ev.step (fun k => rf17_fills.j2.eq_2 _ _ _ _ _ _ _ _) ?_
   cases b with
   | true =>
    simp only [if_true]
    exact Ev.now _
   | false =>
    simp only [Bool.false_eq_true, if_false, if_pos (show 0 < (poly.length : Int) by omega), er0, if_pos (show 0 ≤ (z : Int) by omega), if_pos (show (z : Int) < (r.length : Int) by omega), rdL3 r z hz]
    refine Ev.bind (rpt_ev hs p z hz) ?_
    have := fills_l1 (m := m) (r := r) p poly i (ringAt m r (q : Int)).1 (ringAt m r (z : Int)).1 hlen hlen0 R (by rw [nxt i (by omega)]; exact next h) (ringAt m r (q : Int)).1.length 0 (by omega)
    rw [List.drop_zero] at this
    exact this
  by_cases hi0 : i = 0
  ·subst hi0
   simp only [show ((0 : Nat) : Int) = 0 from rfl, if_pos rfl, if_neg (show ¬ (0 : Int) > 0 by omega)]
   by_cases h1 : signV (ringAt m r (q : Int)).1 = 1
   ·simp only [if_pos h1]
    rw [if_neg (fun h => h.2 h1), if_neg (fun h => absurd h.1 (by omega))]
    exact j2 false
   ·simp only [if_neg h1]
    rw [if_pos ⟨trivial, h1⟩]
    exact j2 true
  ·simp only [if_neg (show ¬ (i : Int) = 0 by omega), if_pos (show (i : Int) > 0 by omega)]
   rw [if_neg (fun h => hi0 h.1)]
   by_cases h1 : signV (ringAt m r (q : Int)).1 = -1
   ·rw [h1, if_neg (fun h => h.2 rfl)]
    exact j2 false
   ·rw [if_pos ⟨by omega, h1⟩]
    have hb : (signV (ringAt m r (q : Int)).1 != -1) = true := bne_iff_ne.mpr h1
    simp only [hb]
    exact j2 true
 ·simp only [if_neg h]
  rw [if_pos (by simpa using h)]
  exact Ev.now _
theorem fills_bad {m : List (List Pt)} {r : List (List Int)} (p : List (List Int)) (poly : List Int) (i : Nat) (hi : i < poly.length) (h : poly[i] < 0 ∨ poly[i] ≥ r.length) : Ev (fun k => rf17_fills.l0 k poly (i : Int) m r p) false := by
 refine Ev.step (fun k => rf17_fills.l0.eq_2 _ _ _ _ _ _) ?_
 simp only [if_pos (show (i : Int) < (poly.length : Int) by omega), if_pos (show 0 ≤ (i : Int) by omega), rdI poly i hi]
 have j1 : Ev (fun k => rf17_fills.j1 k poly (i : Int) true m r p) false := Ev.step (fun k => rf17_fills.j1.eq_2 _ _ _ _ _ _ _) (by simp only [if_true]; exact Ev.now _)
 by_cases h0 : poly[i] < 0
 ·simp only [if_pos h0]
  exact j1
 ·simp only [if_neg h0]
  rw [decide_eq_true (by omega)]
  exact j1
theorem ringAt_out {m : List (List Pt)} {r : List (List Int)} {k : Int} (h : (ringAt m r k).2 = 0) : ∃ q : Nat, q < r.length ∧ k = (q : Int) := by
 unfold ringAt at h
 split at h
 ·cases h
 ·exact ⟨k.toNat, by omega, by omega⟩
theorem ringAt_bad {m : List (List Pt)} {r : List (List Int)} {k : Int} (h : k < 0 ∨ k ≥ r.length) : (ringAt m r k).2 ≠ 0 := by
 unfold ringAt
 rw [if_pos h]
 decide
theorem fills_l0 {m : List (List Pt)} {r : List (List Int)} (hs : Small m r) (p : List (List Int)) (poly : List Int) (hpl : poly.length ≤ 100000000) (h0 : 0 < poly.length) (hr0 : (ringAt m r poly[0]).2 = 0) : ∀ d i : Nat, 0 < i → i + d = poly.length →
  Ev (fun k => rf17_fills.l0 k poly (i : Int) m r p) (fillsL m r (ringAt m r poly[0]).1 false (poly.drop i)) := by
 intro d
 induction d with
 | zero =>
  intro i hi0 hi
  rw [List.drop_of_length_le (by omega)]
  refine Ev.step (f := fun _ => some true) (fun k => ?_) (Ev.now _)
  rw [rf17_fills.l0.eq_2, if_neg (by omega), decide_eq_true (by omega)]
 | succ d ih =>
  intro i hi0 hi
  have hlt : i < poly.length := by omega
  have ih := ih (i + 1) (by omega) (by omega)
  rw [List.drop_eq_getElem_cons hlt]
  unfold fillsL
  by_cases hb : poly[i] < 0 ∨ poly[i] ≥ r.length
  ·rw [if_pos (ringAt_bad hb)]
   exact fills_bad p poly i hlt hb
  ·have h := fills_step hs p poly i hlt hpl (ringAt_out hr0) _ (fun _ => ih) poly[i].toNat (by omega) (by omega)
   simp only [Bool.false_eq_true, if_false]
   by_cases h2 : (ringAt m r poly[i]).2 ≠ 0
   ·rw [if_pos h2] at h ⊢
    exact h
   ·rw [if_neg h2] at h ⊢
    have hc := cmp3_cases (off (areaV (ringAt m r poly[i]).1)) (off 0)
    change signV (ringAt m r poly[i]).1 = -1 ∨ signV (ringAt m r poly[i]).1 = 0 ∨ signV (ringAt m r poly[i]).1 = 1 at hc
    rw [if_neg (show ¬ (i = 0 ∧ signV (ringAt m r poly[i]).1 ≠ 1) from fun h => absurd h.1 (by omega))] at h
    by_cases h3 : signV (ringAt m r poly[i]).1 ≥ 0
    ·rw [if_pos ⟨hi0, by omega⟩] at h
     rw [if_pos h3]
     exact h
    ·rw [if_neg (fun h => h.2 (by omega))] at h
     rw [if_neg h3]
     simp only [hi0, true_and] at h
     exact h
theorem rfills_ev {m : List (List Pt)} {r : List (List Int)} (hs : Small m r) (p : List (List Int)) (poly : List Int) (hpl : poly.length ≤ 100000000) : Ev (fun k => rf17_fills.f k m r p poly) (fillsV m r poly) := by
 unfold rf17_fills.f fillsV
 by_cases h0 : 0 < poly.length
 ·rw [decide_eq_true h0, Bool.true_and]
  have hd : poly = poly[0] :: poly.drop 1 := by
   have := List.drop_eq_getElem_cons (l := poly) (i := 0) h0
   rwa [List.drop_zero] at this
  have hv : fillsL m r [] true poly = if (ringAt m r poly[0]).2 ≠ 0 then false else if signV (ringAt m r poly[0]).1 ≤ 0 then false else fillsL m r (ringAt m r poly[0]).1 false (poly.drop 1) := by
   conv => lhs; rw [hd]
   simp only [fillsL, if_true]
  rw [hv]
  by_cases hb : poly[0] < 0 ∨ poly[0] ≥ r.length
  ·rw [if_pos (ringAt_bad hb)]
   exact fills_bad p poly 0 h0 hb
  ·have h := fills_step hs p poly 0 h0 hpl ⟨poly[0].toNat, by omega, by omega⟩ _ (fun h2 => fills_l0 hs p poly hpl h0 h2 (poly.length - 1) 1 (by omega) (by omega)) poly[0].toNat (by omega) (by omega)
   by_cases h2 : (ringAt m r poly[0]).2 ≠ 0
   ·rw [if_pos h2] at h ⊢
    exact h
   ·rw [if_neg h2] at h ⊢
    have hc := cmp3_cases (off (areaV (ringAt m r poly[0]).1)) (off 0)
    change signV (ringAt m r poly[0]).1 = -1 ∨ signV (ringAt m r poly[0]).1 = 0 ∨ signV (ringAt m r poly[0]).1 = 1 at hc
    by_cases h3 : signV (ringAt m r poly[0]).1 ≤ 0
    ·rw [if_pos ⟨rfl, by omega⟩] at h
     rw [if_pos h3]
     exact h
    ·rw [if_neg (fun h => h.2 (by omega)), if_neg (fun h => absurd h.1 (by omega)), if_neg (fun h => absurd h.1 (by omega))] at h
     rw [if_neg h3]
     exact h
 ·rw [decide_eq_false h0, Bool.false_and]
  refine Ev.step (f := fun _ => some false) (fun k => ?_) (Ev.now _)
  rw [show (0 : Int) = ((0 : Nat) : Int) from rfl, rf17_fills.l0.eq_2, if_neg (by omega), decide_eq_false (by omega)]
theorem fall_l3 {m : List (List Pt)} {r : List (List Int)} (hs : Small m r) (p : List (List Int)) (hp : p.length ≤ 100000000) (hpx : ∀ x ∈ p, x.length ≤ 100000000) : ∀ d i : Nat, i + d = p.length → Ev (fun k => rf17_Fills.l3 k (i : Int) m r p) ((p.drop i).all (fillsV m r)) := by
 intro d
 induction d with
 | zero =>
  intro i hi
  rw [List.drop_of_length_le (by omega)]
  refine Ev.step (f := fun _ => some true) (fun k => ?_) (Ev.now _)
  rw [rf17_Fills.l3.eq_2, if_neg (by omega)]
 | succ d ih =>
  intro i hi
  have hlt : i < p.length := by omega
  have ih := ih (i + 1) (by omega)
  rw [List.drop_eq_getElem_cons hlt, List.all_cons]
  refine Ev.step (fun k => rf17_Fills.l3.eq_2 _ _ _ _ _) ?_
  simp only [if_pos (show (i : Int) < (p.length : Int) by omega), if_pos (show 0 ≤ (i : Int) by omega), rdL3 p i hlt, nxt i (by omega)]
  refine Ev.bind (rfills_ev hs p p[i] (hpx _ (List.getElem_mem hlt))) ?_
  cases fillsV m r p[i] with
  | true =>
   simp only [if_true, Bool.true_and]
   exact ih
  | false =>
   simp only [Bool.false_eq_true, if_false, Bool.false_and]
   exact Ev.now _
theorem fall_l2 (m : List (List Pt)) (r p : List (List Int)) (n : Int) (i : Nat) (hi : i < p.length) (hb : p[i].length ≤ 100000000) (R : Bool) : ∀ d j c : Nat, j + d = p[i].length → c + d ≤ 100000000 →
  Ev (fun k => rf17_Fills.l1 k n ((c + (p[i].drop j).count n : Nat) : Int) (wrap64 ((i : Int) + 1)) m r p) R → Ev (fun k => rf17_Fills.l2 k n (c : Int) (i : Int) (j : Int) m r p) R := by
 intro d
 induction d with
 | zero =>
  intro j c hj hc h
  rw [List.drop_of_length_le (by omega), List.count_nil, Nat.add_zero] at h
  refine Ev.step (fun k => ?_) h
  simp only [rf17_Fills.l2]
  rw [if_pos (by omega), if_pos (by omega), rdL3 p i hi, if_neg (by omega)]
 | succ d ih =>
  intro j c hj hc h
  have hlt : j < p[i].length := by omega
  rw [List.drop_eq_getElem_cons hlt, List.count_cons] at h
  by_cases e : p[i][j] = n
  ·refine Ev.step (f := fun k => rf17_Fills.l2 k n ((c + 1 : Nat) : Int) (i : Int) ((j + 1 : Nat) : Int) m r p) (fun k => ?_) (ih (j + 1) (c + 1) (by omega) (by omega) ?_)
   ·conv => lhs; simp only [rf17_Fills.l2]
    rw [if_pos (by omega), if_pos (by omega), rdL3 p i hi, if_pos (by omega), if_pos (by omega), rdI _ j hlt, if_pos e, nxt c (by omega), nxt j (by omega)]
   ·have e2 : (c + 1 + (p[i].drop (j + 1)).count n : Nat) = c + ((p[i].drop (j + 1)).count n + if (p[i][j] == n) = true then 1 else 0) := by rw [if_pos (by simpa using e)]; omega
    rw [e2]
    exact h
  ·refine Ev.step (f := fun k => rf17_Fills.l2 k n (c : Int) (i : Int) ((j + 1 : Nat) : Int) m r p) (fun k => ?_) (ih (j + 1) c (by omega) (by omega) ?_)
   ·conv => lhs; simp only [rf17_Fills.l2]
    rw [if_pos (by omega), if_pos (by omega), rdL3 p i hi, if_pos (by omega), if_pos (by omega), rdI _ j hlt, if_neg e, nxt j (by omega)]
   ·have e2 : (c + (p[i].drop (j + 1)).count n : Nat) = c + ((p[i].drop (j + 1)).count n + if (p[i][j] == n) = true then 1 else 0) := by rw [if_neg (by simpa using e)]; omega
    rw [e2]
    exact h
theorem fall_l1 (m : List (List Pt)) (r p : List (List Int)) (n : Nat) (hn : n ≤ 100000000) (hp : p.length ≤ 100000000) (R : Bool) (next : Ev (fun k => rf17_Fills.l0 k ((n + 1 : Nat) : Int) m r p) R) : ∀ d i c : Nat, i + d = p.length → c + (p.drop i).flatten.length ≤ 100000000 →
  Ev (fun k => rf17_Fills.l1 k (n : Int) (c : Int) (i : Int) m r p) (decide (c + (p.drop i).flatten.count (n : Int) = 1) && R) := by
 intro d
 induction d with
 | zero =>
  intro i c hi hc
  rw [List.drop_of_length_le (by omega), List.flatten_nil, List.count_nil, Nat.add_zero]
  refine Ev.step (fun k => rf17_Fills.l1.eq_2 _ _ _ _ _ _ _) ?_
  simp only [if_neg (show ¬ (i : Int) < (p.length : Int) by omega), nxt n hn]
  by_cases h : c = 1
  ·simp only [if_pos (show (c : Int) = 1 by omega), decide_eq_true h, Bool.true_and]
   exact next
  ·simp only [if_neg (show ¬ (c : Int) = 1 by omega), decide_eq_false h, Bool.false_and]
   exact Ev.now _
 | succ d ih =>
  intro i c hi hc
  have hlt : i < p.length := by omega
  rw [List.drop_eq_getElem_cons hlt, List.flatten_cons, List.length_append] at hc
  rw [List.drop_eq_getElem_cons hlt, List.flatten_cons, List.count_append, ← Nat.add_assoc]
  have hcl : p[i].count (n : Int) ≤ p[i].length := List.count_le_length
  refine Ev.step (f := fun k => rf17_Fills.l2 k (n : Int) (c : Int) (i : Int) ((0 : Nat) : Int) m r p) (fun k => ?_) (fall_l2 m r p (n : Int) i hlt (by omega) _ p[i].length 0 c (by omega) (by omega) ?_)
  ·conv => lhs; simp only [rf17_Fills.l1]
   rw [if_pos (by omega)]
   rfl
  ·rw [List.drop_zero, nxt i (by omega)]
   exact ih (i + 1) _ (by omega) (by omega)
theorem fall_l0 {m : List (List Pt)} {r : List (List Int)} (hs : Small m r) (p : List (List Int)) (hp : p.length ≤ 100000000) (hpf : p.flatten.length ≤ 100000000) : ∀ d n : Nat, n + d = r.length →
  Ev (fun k => rf17_Fills.l0 k (n : Int) m r p) ((List.range' n d).all (fun k : Nat => decide (p.flatten.count (k : Int) = 1)) && p.all (fillsV m r)) := by
 have hrl := hs.rings
 have hpx : ∀ x ∈ p, x.length ≤ 100000000 := fun x hx => Nat.le_trans (flat_mem_len p x hx) hpf
 intro d
 induction d with
 | zero =>
  intro n hn
  refine Ev.step (f := fun k => rf17_Fills.l3 k ((0 : Nat) : Int) m r p) (fun k => ?_) (by have := fall_l3 hs p hp hpx p.length 0 (by omega); rw [List.drop_zero] at this; exact this)
  rw [rf17_Fills.l0.eq_2, if_neg (by omega)]
  rfl
 | succ d ih =>
  intro n hn
  rw [List.range'_succ, List.all_cons, Bool.and_assoc]
  have h := fall_l1 m r p n (by omega) hp _ (ih (n + 1) (by omega)) p.length 0 0 (by omega) (by rw [List.drop_zero]; omega)
  rw [List.drop_zero, Nat.zero_add] at h
  refine Ev.step (fun k => ?_) h
  rw [rf17_Fills.l0.eq_2, if_pos (by omega)]
  rfl
theorem fillsL_in {m : List (List Pt)} {r : List (List Int)} : ∀ (l : List Int) (O : List Pt) (b : Bool), fillsL m r O b l = true → ∀ k ∈ l, inR r k = true
 | [], _, _, _ => by simp
 | k :: t, O, b, h => by
  intro x hx
  unfold fillsL at h
  split at h
  ·cases h
  ·rename_i h0
   have h0 : (ringAt m r k).2 = 0 := by simpa using h0
   have hk : inR r k = true := by
    obtain ⟨q, hq, e⟩ := ringAt_out h0
    unfold inR
    exact decide_eq_true (by omega)
   rcases List.mem_cons.1 hx with rfl | hx
   ·exact hk
   ·split at h
    ·split at h
     ·cases h
     ·exact fillsL_in t _ _ h x hx
    ·split at h
     ·cases h
     ·split at h
      ·cases h
      ·exact fillsL_in t _ _ h x hx
theorem FillsV_eq (m : List (List Pt)) (r p : List (List Int)) : FillsV m r p = ((List.range' 0 r.length).all (fun k : Nat => decide (p.flatten.count (k : Int) = 1)) && p.all (fillsV m r)) := by
 unfold FillsV
 cases h : p.all (fillsV m r) with
 | false => rw [Bool.and_false, Bool.and_false]
 | true =>
  have hin : p.flatten.all (inR r) = true := by
   rw [List.all_eq_true]
   intro x hx
   obtain ⟨l, hl, hxl⟩ := List.mem_flatten.1 hx
   have hf := List.all_eq_true.1 h l hl
   unfold fillsV at hf
   rw [Bool.and_eq_true] at hf
   exact fillsL_in l _ _ hf.2 x hxl
  rw [hin, Bool.true_and]
theorem rFills_ev {m : List (List Pt)} {r : List (List Int)} (hs : Small m r) (p : List (List Int)) (hp : p.length ≤ 100000000) (hpf : p.flatten.length ≤ 100000000) : Ev (fun k => rf17_Fills.f k m r p) (FillsV m r p) := by
 rw [FillsV_eq]
 unfold rf17_Fills.f
 exact fall_l0 hs p hp hpf r.length 0 (by omega)
end Go.Proofs.Ytbonkedecfjmdaa.Pl

namespace Go.Proofs.Ytbonkedecfjmdaa.Pl
set_option linter.unusedVariables false
set_option linter.unusedSimpArgs false
open Go.RowKit Go.Proofs.Ytbonkedecfjmdaa.P Go.Proofs.Ytbonkedecfjmdaa.G Go.Proofs.YtbonkedecfjmdaaW.PrintWords Go.Proofs.YtbonkedecfjmdaaW.PrintLast Go.Proofs.YtbonkedecfjmdaaW.PrintMore
def S1 {α : Type} (l : List (List α)) : Nat := (l.map (fun a => 1 + a.length)).sum
theorem S1_cons {α : Type} (a : List α) (l : List (List α)) : S1 (a :: l) = 1 + a.length + S1 l := by simp [S1]
theorem S1_len {α : Type} (l : List (List α)) : l.length + l.flatten.length = S1 l := by
 induction l with
 | nil => rfl
 | cons a l ih => rw [S1_cons, List.flatten_cons, List.length_append, List.length_cons]; omega
theorem S1_mem {α : Type} (l : List (List α)) (a : List α) (h : a ∈ l) : a.length ≤ S1 l := by
 induction l with
 | nil => simp at h
 | cons b l ih =>
  rw [S1_cons]
  rcases List.mem_cons.1 h with rfl | h
  ·omega
  ·have := ih h; omega
theorem step1 (x i n : Nat) (h : x + i + n ≤ 400000000) : wrap64 (wrap64 ((x : Int) + 1) + (n : Int)) = ((x + (1 + n) : Nat) : Int) ∧ wrap64 ((i : Int) + 1) = ((i + 1 : Nat) : Int) := by unfold wrap64; omega
theorem lng_l2 (m : List (List Pt)) (r p : List (List Int)) : ∀ (d i x : Nat), i + d = p.length → p.length ≤ 100000000 → x + S1 (p.drop i) ≤ 100000000 → Ev (fun k => lw_long.l2 k (x : Int) (i : Int) m r p) (decide (x + S1 (p.drop i) > 80)) := by
 intro d
 induction d with
 | zero =>
  intro i x hi hn hb
  rw [List.drop_of_length_le (by omega)]
  refine Ev.step (f := fun _ => some (decide (x + S1 ([] : List (List Int)) > 80))) (fun k => ?_) (Ev.now _)
  rw [lw_long.l2.eq_2, if_neg (by omega)]
  congr 1
  rw [show x + S1 ([] : List (List Int)) = x from rfl]
  by_cases h : x > 80
  ·rw [decide_eq_true h, decide_eq_true (by omega)]
  ·rw [decide_eq_false h, decide_eq_false (by omega)]
 | succ d ih =>
  intro i x hi hn hb
  have hlt : i < p.length := by omega
  rw [List.drop_eq_getElem_cons hlt, S1_cons] at hb ⊢
  have ih := ih (i + 1) (x + (1 + p[i].length)) (by omega) hn (by omega)
  obtain ⟨e1, e2⟩ := step1 x i p[i].length (by omega)
  rw [← Nat.add_assoc]
  refine Ev.step (fun k => lw_long.l2.eq_2 _ _ _ _ _ _) ?_
  simp only [if_pos (show (i : Int) < (p.length : Int) by omega), if_pos (show (0 : Int) ≤ (i : Int) by omega), show rd_L3 p (i : Int) = p[i] by simp [rd_L3, List.getD, List.getElem?_eq_getElem hlt], e1, e2]
  exact ih
theorem lng_l1 (m : List (List Pt)) (r p : List (List Int)) : ∀ (d i x : Nat), i + d = r.length → r.length ≤ 100000000 → x + S1 (r.drop i) + S1 p ≤ 100000000 → Ev (fun k => lw_long.l1 k (x : Int) (i : Int) m r p) (decide (x + S1 (r.drop i) + S1 p > 80)) := by
 intro d
 induction d with
 | zero =>
  intro i x hi hn hb
  rw [List.drop_of_length_le (by omega)]
  have hpl := S1_len p
  have h := lng_l2 m r p p.length 0 x (by omega) (by omega) (by rw [List.drop_zero]; omega)
  rw [List.drop_zero] at h
  refine Ev.step (fun k => ?_) h
  rw [lw_long.l1.eq_2, if_neg (by omega)]
  rfl
 | succ d ih =>
  intro i x hi hn hb
  have hlt : i < r.length := by omega
  rw [List.drop_eq_getElem_cons hlt, S1_cons] at hb ⊢
  have ih := ih (i + 1) (x + (1 + r[i].length)) (by omega) hn (by omega)
  obtain ⟨e1, e2⟩ := step1 x i r[i].length (by omega)
  rw [← Nat.add_assoc]
  refine Ev.step (fun k => lw_long.l1.eq_2 _ _ _ _ _ _) ?_
  simp only [if_pos (show (i : Int) < (r.length : Int) by omega), if_pos (show (0 : Int) ≤ (i : Int) by omega), show rd_L3 r (i : Int) = r[i] by simp [rd_L3, List.getD, List.getElem?_eq_getElem hlt], e1, e2]
  exact ih
theorem lng_l0 (m : List (List Pt)) (r p : List (List Int)) : ∀ (d i x : Nat), i + d = m.length → m.length ≤ 100000000 → x + S1 (m.drop i) + S1 r + S1 p ≤ 100000000 → Ev (fun k => lw_long.l0 k (x : Int) (i : Int) m r p) (decide (x + S1 (m.drop i) + S1 r + S1 p > 80)) := by
 intro d
 induction d with
 | zero =>
  intro i x hi hn hb
  rw [List.drop_of_length_le (by omega)]
  have hpl := S1_len r
  have h := lng_l1 m r p r.length 0 x (by omega) (by omega) (by rw [List.drop_zero]; omega)
  rw [List.drop_zero] at h
  refine Ev.step (fun k => ?_) h
  rw [lw_long.l0.eq_2, if_neg (by omega)]
  rfl
 | succ d ih =>
  intro i x hi hn hb
  have hlt : i < m.length := by omega
  rw [List.drop_eq_getElem_cons hlt, S1_cons] at hb ⊢
  have ih := ih (i + 1) (x + (1 + m[i].length)) (by omega) hn (by omega)
  obtain ⟨e1, e2⟩ := step1 x i m[i].length (by omega)
  rw [← Nat.add_assoc]
  refine Ev.step (fun k => lw_long.l0.eq_2 _ _ _ _ _ _) ?_
  simp only [if_pos (show (i : Int) < (m.length : Int) by omega), if_pos (show (0 : Int) ≤ (i : Int) by omega), show rd_L2 m (i : Int) = m[i] by simp [rd_L2, List.getD, List.getElem?_eq_getElem hlt], e1, e2]
  exact ih
theorem lng_ev (m : List (List Pt)) (r p : List (List Int)) (h : S1 m + S1 r + S1 p ≤ 100000000) : Ev (fun k => lw_long.f k m r p) (decide (S1 m + S1 r + S1 p > 80)) := by
 have hpl := S1_len m
 have h := lng_l0 m r p m.length 0 0 (by omega) (by omega) (by rw [List.drop_zero]; omega)
 rw [List.drop_zero, Nat.zero_add] at h
 unfold lw_long.f
 exact h
end Go.Proofs.Ytbonkedecfjmdaa.Pl
