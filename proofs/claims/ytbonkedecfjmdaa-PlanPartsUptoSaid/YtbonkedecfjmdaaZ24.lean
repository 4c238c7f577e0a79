/- Whether all rings close: the values, and the walks of ring.Uses and plan.Closes. No condition. (printed by gen_kh.py) Written for this claim by a program of this session (a turned copy of the print): Go functions as Lean functions, and that the Go code comes to just these answers; or a statement proved out of them. No condition. -/
import Derived.Test.YtbonkedecfjmdaaZ2
import Derived.Test.YtbonkedecfjmdaaZ23

namespace Go.Proofs.Ytbonkedecfjmdaa.Pl
set_option linter.unusedVariables false
set_option linter.unusedSimpArgs false
open Go Go.RowKit Go.Proofs.Ytbonkedecfjmdaa.X Go.Proofs.Ytbonkedecfjmdaa.P Go.Proofs.Ytbonkedecfjmdaa.G Go.Proofs.Ytbonkedecfjmdaa.WL Go.Proofs.YtbonkedecfjmdaaW.PrintWords Go.Proofs.YtbonkedecfjmdaaW.PrintLast Go.Proofs.YtbonkedecfjmdaaW.PrintMore
def bckL (n : Nat) (l : List Int) : List Int := (List.range' 0 n).map fun k : Nat => ((l.count (-1 - (k : Int)) : Nat) : Int)
theorem bckL_len (n : Nat) (l : List Int) : (bckL n l).length = n := by simp [bckL]
theorem bckL_get (n : Nat) (l : List Int) (i : Nat) (h : i < n) : (bckL n l)[i]'(by rw [bckL_len]; exact h) = (l.count (-1 - (i : Int)) : Int) := by simp [bckL]
theorem bckL_nil (n : Nat) : bckL n [] = List.replicate n 0 := by
 apply List.ext_getElem
 ·simp [bckL]
 ·intro i h1 h2; simp [bckL]
theorem cnt1 (l : List Int) (k j : Int) : (l ++ [k]).count j = l.count j + if k = j then 1 else 0 := by
 rw [List.count_append, List.count_cons, List.count_nil]
 by_cases h : k = j
 ·simp [h]
 ·simp [h]
theorem bckL_snoc (n : Nat) (l : List Int) (k : Int) (q : Nat) (h : q < n) (e : k = -1 - (q : Int)) : bckL n (l ++ [k]) = (bckL n l).set q ((l.count k : Int) + 1) := by
 apply List.ext_getElem
 ·simp [bckL]
 ·intro i h1 h2
  rw [bckL_len] at h1
  rw [bckL_get n _ i h1, List.getElem_set, cnt1]
  by_cases e2 : q = i
  ·subst e2
   rw [if_pos rfl, if_pos e, e]
   omega
  ·rw [if_neg e2, bckL_get n _ i h1, if_neg (by omega)]
   omega
theorem cntL_skip (n : Nat) (l : List Int) (k : Int) (h : ¬ (0 ≤ k ∧ k < n)) : cntL n (l ++ [k]) = cntL n l := by
 apply List.ext_getElem
 ·simp [cntL]
 ·intro i h1 h2
  rw [cntL_len] at h1 h2
  rw [cntL_get n _ i h1, cntL_get n _ i h1, cnt1, if_neg (by omega)]
  omega
theorem bckL_skip (n : Nat) (l : List Int) (k : Int) (h : ¬ (0 ≤ -1 - k ∧ -1 - k < n)) : bckL n (l ++ [k]) = bckL n l := by
 apply List.ext_getElem
 ·simp [bckL]
 ·intro i h1 h2
  rw [bckL_len] at h1 h2
  rw [bckL_get n _ i h1, bckL_get n _ i h1, cnt1, if_neg (by omega)]
  omega
theorem not64' {x : Int} (h : -9223372036854775808 ≤ x) (h' : x ≤ 9223372036854775807) : Go.bits .xor .i64 (-1) x = -x - 1 := Gr.not64 h h'
theorem make_step_ints {ops : Array Oper} {o : Oper} {a : Act} {Q : Exit → Act → World → Prop} {Kc : Act → World → Prop} {W : World} (hw : Region.wanted o (yielded ops a.tmps) = true) {N : Tmp} (hd : o.dst = some N) (x y : Operand) (ho : o.op = .makeSlice 32 x y) (n : Nat) (hx : a.eval x = .int .i64 (n : Int)) (hy : a.eval y = .int .i64 (n : Int)) (hn : n ≤ 1000000)
  (h : ∀ w1, w1.heap[W.heap.size]? = some (.cells (blkI (List.replicate n 0)) 3 (0, 0)) → Below W.heap.size W w1 → Kc (a.put o.dst (.slice (some ⟨W.heap.size, 0, none⟩) n n)) w1) : if Region.wanted o (yielded ops a.tmps) = true then Oper.wp Try.prog o a W Kc Q else Kc (a.put o.dst undef) W := by
 obtain ⟨i0, hi, hzz⟩ := Option.map_eq_some_iff.1 inf3
 simp only [Prod.mk.injEq] at hzz
 obtain ⟨hz0, hz1, hz2⟩ := hzz
 have hr := run_make (P := Try.prog) W 32 3 i0 _ Try.underlying32 hi hz0 .i64 .i64 (n : Int) (n : Int) (by omega) (by omega) (by rw [hz2]; omega) (by omega)
 rw [Int.toNat_natCast, hz1, Nat.mul_one] at hr
 refine event_step (v := .slice (some ⟨W.heap.size, 0, none⟩) n n) (w1 := W.alloc (.cells (madeCells (Value.cells (.int .i64 0)) n) 3)) hw (by simp [execOp, ho, hx, hy, hr]) (h _ ?_ ((Below.refl _ W).alloc (Nat.le_refl _) _))
 have e : madeCells (Value.cells (.int .i64 0)) n = blkI (List.replicate n 0) := by
  apply Array.ext'
  show (madeCells #[Value.int .i64 0] n).toList = _
  rw [toList_madeCells_one]
  simp [blkI]
 rw [e]
 exact heap_alloc_new _ _
def usesT : Bool × List (List Nat × List Nat) := (true, [([], []), ([0], [0]), ([1], [1]), ([2, 2], [2]), ([], []), ([4], [4]), ([5], [5]), ([6, 6], [6]), ([3, 0, 1, 2, 3], [3]), ([7, 8, 0, 1, 2, 3, 4, 5, 6, 7, 8], [7])])
def usesB : List Nat := [0, 1, 3, 7, 0, 16, 48, 112, 15, 511]
theorem usesTab : rtab .any (opsOf Try.f37 1) = usesT := by kernel_rfl
theorem usesBits : waitsOk usesT.2 usesB = true := by kernel_rfl
set_option maxHeartbeats 8000000 in
set_option maxRecDepth 100000 in
theorem Uses_calls (A0 A1 A2 : Option Addr) (c0 c1 c2 : Nat) (m : List (List Pt)) (r p : List (List Int)) (w : World) (hr1 : Kd.C (Kd.slice 3 (Kd.int .i64)) w A1 r.length r) (hs : Small m r) (hml : m.length ≤ 1000000) :
  Calls Try.prog 37 #[.agg #[.slice A0 m.length c0, .slice A1 r.length c1, .slice A2 p.length c2]] w fun e w' => ∃ g1 g2 : Nat, e = .returned (.tuple #[.slice (some ⟨g1, 0, none⟩) m.length m.length, .slice (some ⟨g2, 0, none⟩) m.length m.length]) ∧ w'.heap[g1]? = some (.cells (blkI (cntL m.length r.flatten)) 3 (0, 0)) ∧ w'.heap[g2]? = some (.cells (blkI (bckL m.length r.flatten)) 3 (0, 0)) ∧ Below w.heap.size w w' := by
 have hu25 := Try.underlying25
 have hrl := hs.rings
 have hfl := hs.refs
 have hwf : ∀ n ∈ r.flatten, wf64 n := fun n hn => by
  obtain ⟨x, hx, hnx⟩ := List.mem_flatten.1 hn
  exact hs.wf x hx n hnx
 have hconcat := fun W (h : Below w.heap.size w W) => concat_calls A1 c1 r W (Kd.C_below hr1 h) (by omega) (by omega)
 generalize r.flatten = L at *
 go_enter Try.func37, Try.ntmps37
 have hba : Below w.heap.size w (w.alloc (.cells #[.slice A0 m.length c0, .slice A1 r.length c1, .slice A2 p.length c2] 25)) := (Below.refl _ w).alloc (Nat.le_refl _) _
 have hga := heap_alloc_new w (.cells #[.slice A0 m.length c0, .slice A1 r.length c1, .slice A2 p.length c2] 25)
 go_upto_region 1 with (go_step3)
 generalize w.alloc (.cells #[.slice A0 m.length c0, .slice A1 r.length c1, .slice A2 p.length c2] 25) = W0 at hba hga ⊢
 have hg6 := blk_drew hga
 have hB6 := below_drew1 hba
 clear hga hba
 refine sP 10 (S := fun w' => w'.cell? ⟨w.heap.size, 0, none⟩ = some (.slice A0 m.length c0) ∧ w'.cell? ⟨w.heap.size, 1, none⟩ = some (.slice A1 r.length c1) ∧ w'.cell? ⟨w.heap.size, 2, none⟩ = some (.slice A2 p.length c2)) (ds := []) ⟨(blk_cell hg6 0).trans rfl, (blk_cell hg6 1).trans rfl, (blk_cell hg6 2).trans rfl⟩ fun hHeld => ?_; refine with_tabW usesTab usesBits (fun HT_ HW_ => ?_)
 generalize W0.drew = w6 at hg6 hB6 hHeld ⊢
 refine pQ 0 (some 8) HT_ ?_; refine pQ 4 (some 12) HT_ ?_; refine tQ 1 (some 9) HT_ HW_ hHeld ?_; refine pQ 2 (some 10) HT_ ?_; refine tQ 5 (some 13) HT_ HW_ hHeld ?_; refine pQ 6 (some 14) HT_ ?_
 refine join_ (σ := Nat × Nat) 1 #[true, true, true, true, true, true, true, true, true, false] (fun s_ => [(11, .slice (some ⟨s_.1, 0, none⟩) m.length m.length), (15, .slice (some ⟨s_.2, 0, none⟩) m.length m.length), (4, .slice (some ⟨s_.1, 0, none⟩) m.length m.length)]) (fun s_ w' => (w'.cell? ⟨w.heap.size, 0, none⟩ = some (.slice A0 m.length c0) ∧ w'.cell? ⟨w.heap.size, 1, none⟩ = some (.slice A1 r.length c1) ∧ w'.cell? ⟨w.heap.size, 2, none⟩ = some (.slice A2 p.length c2)) ∧ w'.heap[s_.1]? = some (.cells (blkI (List.replicate m.length 0)) 3 (0, 0)) ∧ w'.heap[s_.2]? = some (.cells (blkI (List.replicate m.length 0)) 3 (0, 0)) ∧ s_.1 ≠ s_.2 ∧ w.heap.size < s_.1 ∧ w.heap.size < s_.2 ∧ w'.heap[w.heap.size]? = some (.cells #[.slice A0 m.length c0, .slice A1 r.length c1, .slice A2 p.length c2] 25 (0, 0)) ∧ Below w.heap.size w w') ?_ ?_
 rotate_left
 ·intro hCont
  refine two_ (i := 3) (j := 7) (Ni := some 11) (Nj := some 15) #[true, true, true, true, true, true, true, false, false, false] #[true, true, true, false, true, true, true, true, false, false] rfl rfl rfl rfl (two_of HT_.out (by kernel_rfl)) (by decide) (by decide) (fun K hK => ?_) (fun K hK => ?_)
  rotate_left
  ·skip
   refine make_step_ints (by rfl) (N := 15) rfl (.tmp 14) (.tmp 14) rfl m.length rfl rfl (by omega) ?_
   intro w7 hu7 hb7
   have hg7 := blk_below hg6 hb7
   have hB7 := below_step hB6 hb7
   have hlt7 := below_size hB6
   refine hK.out _ _ ⟨(blk_cell hg7 0).trans rfl, (blk_cell hg7 1).trans rfl, (blk_cell hg7 2).trans rfl⟩ (fun hHeld => ?_)
   clear hK K; refine nP (some 15) ?_
   refine oQ 3 (some 11) HT_ rfl fun K hK => ?_
   refine make_step_ints (by rfl) (N := 11) rfl (.tmp 10) (.tmp 10) rfl m.length rfl rfl (by omega) ?_
   intro w9 hu9 hb9
   have hg9 := blk_below hg7 hb9
   have hB9 := below_step hB7 hb9
   have hu79 := blk_below hu7 hb9
   have hl7 := blk_lt hu7
   have hl6 := blk_lt hg6
   refine hK.out _ _ ⟨(blk_cell hg9 0).trans rfl, (blk_cell hg9 1).trans rfl, (blk_cell hg9 2).trans rfl⟩ (fun hHeld => ?_)
   clear hK K; refine nP (some 11) ?_; refine pQ 8 (some 4) HT_ ?_
   exact norm_ (by simp only [putAll, Act.put, List.setIfInBounds_toArray, List.set_cons_zero, List.set_cons_succ]) (hCont (w7.heap.size, w6.heap.size) _ ⟨hHeld, hu9, hu79, (by show w7.heap.size ≠ w6.heap.size; omega), (by show w.heap.size < w7.heap.size; omega), (by show w.heap.size < w6.heap.size; omega), hg9, hB9⟩)
  ·skip
   refine make_step_ints (by rfl) (N := 11) rfl (.tmp 10) (.tmp 10) rfl m.length rfl rfl (by omega) ?_
   intro w7 hu7 hb7
   have hg7 := blk_below hg6 hb7
   have hB7 := below_step hB6 hb7
   have hlt7 := below_size hB6
   refine hK.out _ _ ⟨(blk_cell hg7 0).trans rfl, (blk_cell hg7 1).trans rfl, (blk_cell hg7 2).trans rfl⟩ (fun hHeld => ?_)
   clear hK K; refine nP (some 11) ?_; refine pQ 8 (some 4) HT_ ?_
   refine oQ 7 (some 15) HT_ rfl fun K hK => ?_
   refine make_step_ints (by rfl) (N := 15) rfl (.tmp 14) (.tmp 14) rfl m.length rfl rfl (by omega) ?_
   intro w9 hu9 hb9
   have hg9 := blk_below hg7 hb9
   have hB9 := below_step hB7 hb9
   have hu79 := blk_below hu7 hb9
   have hl7 := blk_lt hu7
   have hl6 := blk_lt hg6
   refine hK.out _ _ ⟨(blk_cell hg9 0).trans rfl, (blk_cell hg9 1).trans rfl, (blk_cell hg9 2).trans rfl⟩ (fun hHeld => ?_)
   clear hK K; refine nP (some 15) ?_
   exact norm_ (by simp only [putAll, Act.put, List.setIfInBounds_toArray, List.set_cons_zero, List.set_cons_succ]) (hCont (w6.heap.size, w7.heap.size) _ ⟨hHeld, hu79, hu9, (by show w6.heap.size ≠ w7.heap.size; omega), (by show w.heap.size < w6.heap.size; omega), (by show w.heap.size < w7.heap.size; omega), hg9, hB9⟩)
 rintro ⟨g1, g2⟩ w11 ⟨hS_, hu1, hu2, hne, hlt1, hlt2, hgb, hB⟩
 simp only at hu1 hu2 hne hlt1 hlt2
 have hHeld : w11.cell? ⟨w.heap.size, 0, none⟩ = some (.slice A0 m.length c0) ∧ w11.cell? ⟨w.heap.size, 1, none⟩ = some (.slice A1 r.length c1) ∧ w11.cell? ⟨w.heap.size, 2, none⟩ = some (.slice A2 p.length c2) := hS_
 refine norm_ (a' := ?_) ?_ ?_
 rotate_left
 ·simp only [putAll, Act.put, List.setIfInBounds_toArray, List.set_cons_zero, List.set_cons_succ]
  rfl
 refine pQ 9 (some 5) HT_ ?_
 refine done_ (done_of HT_.out (by kernel_rfl)) ?_
 have x1 : w11.cell? ⟨w.heap.size, 1, none⟩ = some (.slice A1 r.length c1) := (blk_cell hgb 1).trans rfl
 have hcc := hconcat w11 hB
 clear hconcat hS_ hHeld HT_ HW_ hg6 hB6
 go_upto_block 0 with (first | (go_at_call 39; refine hcc.mono ?_; rintro e w2 ⟨v2, rfl, ho2, hb2⟩; obtain ⟨A3, c3, e3⟩ := Kd.R_slice ho2; subst e3) | go_step3)
 have hRL := Kd.R_mono (ok' := fun k => w11.heap.size ≤ k) (Kd.R_bound ho2) (fun k hk => hk.2.1)
 have hg1l := blk_lt hu1
 have hg2l := blk_lt hu2
 have hu1' := blk_below hu1 hb2
 have hu2' := blk_below hu2 hb2
 have hB2 := below_step hB hb2
 clear ho2 hu1 hu2 hB hb2 hcc x1 hgb
 go_wp2_with (go_step3)
 go_loopw [20] (fun v wr => ∃ i : Nat, i ≤ L.length ∧ v = .int .i64 i ∧ wr.heap[g1]? = some (.cells (blkI (cntL m.length (L.take i))) 3 (0, 0)) ∧ wr.heap[g2]? = some (.cells (blkI (bckL m.length (L.take i))) 3 (0, 0)) ∧ Kd.R (Kd.int .i64) 3 wr w11.heap.size (fun k => w11.heap.size ≤ k) (.slice A3 L.length c3) L ∧ Below w.heap.size w wr) (fun v _ => L.length - (intV v).toNat)
 case atStart => exact ⟨0, by omega, rfl, by rw [List.take_zero, cntL_nil]; exact hu1', by rw [List.take_zero, bckL_nil]; exact hu2', hRL, hB2⟩
 case round =>
  clear hu1' hu2' hRL hB2
  obtain ⟨i, hi, rfl, hu1, hu2, hRL, hB⟩ := hrel
  rcases Nat.lt_or_ge i L.length with hlt | hge
  ·have hii : (i : Int) < (L.length : Int) := by omega
   have hib : decide ((i : Int) < (L.length : Int)) = true := decide_eq_true hii
   obtain ⟨ad, eA, y0⟩ := Kd.at_int (Kd.R_reads' hRL).2.2 (i : Int) (by omega) hii
   subst eA
   rw [show rd L (i : Int) = L[i] by simp [rd, List.getD, List.getElem?_eq_getElem hlt], Int.toNat_natCast] at y0
   have htk : L.take (i + 1) = L.take i ++ [L[i]] := by rw [List.take_add_one, List.getElem?_eq_getElem hlt]; rfl
   obtain ⟨hw1, hw2⟩ := hwf _ (List.getElem_mem hlt)
   have hcl : (L.take i).count L[i] ≤ 20000 := Nat.le_trans List.count_le_length (by rw [List.length_take]; omega)
   have hx := not64' hw1 hw2
   have HTK := AM htk
   clear htk
   generalize hk : L[i] = k at *
   clear hk
   by_cases h0 : k < 0
   ·obtain ⟨q, hq⟩ := Int.eq_ofNat_of_zero_le (show 0 ≤ -k - 1 by omega)
    rw [hq] at hx
    have hx2 : Go.bits BinOp.xor IntKind.i64 (if IntKind.i64.signed = true then -1 else 9223372036854775807) k = (q : Int) := hx
    have h0b : decide (k < 0) = true := decide_eq_true h0
    have h0c : decide (0 ≤ k) = false := decide_eq_false (by omega)
    have HE := AM (show k = -1 - (q : Int) by omega)
    have HC := AM (show cntL m.length (L.take (i + 1)) = cntL m.length (L.take i) by rw [HTK.out]; exact cntL_skip _ _ k (by omega))
    clear hq
    by_cases hqn : q < m.length
    ·have hqi : (q : Int) < (m.length : Int) := by omega
     have hqb : decide ((q : Int) < (m.length : Int)) = true := decide_eq_true hqi
     have hcu : wr.cell? ⟨g2, q, none⟩ = some (.int .i64 (((L.take i).count k : Nat) : Int)) := by
      rw [blk_cell hu2 q]
      unfold blkI
      have := bckL_get m.length (L.take i) q hqn
      rw [← HE.out] at this
      simp [this, bckL_len, hqn]
      try rw [List.getElem?_eq_getElem (by rw [bckL_len]; exact hqn), this]
      try rfl
     have hfz := blk_frozen hu2 q
     have HCN := AM (show bckL m.length (L.take (i + 1)) = (bckL m.length (L.take i)).set q ((((L.take i).count k : Nat) : Int) + 1) by rw [HTK.out]; exact bckL_snoc m.length (L.take i) k q hqn HE.out)
     generalize (L.take i).count k = cn at *
     go_wp2_with (go_step3)
     go_roundw
     case rel =>
      refine ⟨i + 1, by omega, rfl, by rw [HC.out]; exact blk_far hu1 hne _, ?_, Kd.R_far (p := ⟨g2, q, none⟩) hRL (fun k hk => by show k ≠ g2; omega) _, below_set hB (by show w.heap.size ≤ g2; omega)⟩
      rw [HCN.out, ← blkI_set]
      exact blk_set hu2 q _
     case measure => simp [intV]; omega
    ·have hqi : ¬ (q : Int) < (m.length : Int) := by omega
     have hqb : decide ((q : Int) < (m.length : Int)) = false := decide_eq_false hqi
     have HC2 := AM (show bckL m.length (L.take (i + 1)) = bckL m.length (L.take i) by rw [HTK.out]; exact bckL_skip _ _ k (by have := HE.out; omega))
     go_wp2_with (go_step3)
     go_roundw
     case rel => exact ⟨i + 1, by omega, rfl, by rw [HC.out]; exact hu1, by rw [HC2.out]; exact hu2, hRL, hB⟩
     case measure => simp [intV]; omega
   ·obtain ⟨q, rfl⟩ := Int.eq_ofNat_of_zero_le (show 0 ≤ k by omega)
    have HC := AM (show bckL m.length (L.take (i + 1)) = bckL m.length (L.take i) by rw [HTK.out]; exact bckL_skip _ _ _ (by omega))
    by_cases hqn : q < m.length
    ·have hqi : (q : Int) < (m.length : Int) := by omega
     have hqb : decide ((q : Int) < (m.length : Int)) = true := decide_eq_true hqi
     have hcu : wr.cell? ⟨g1, q, none⟩ = some (.int .i64 (((L.take i).count (q : Int) : Nat) : Int)) := by
      rw [blk_cell hu1 q]
      unfold blkI
      have := cntL_get m.length (L.take i) q hqn
      simp [this, cntL_len, hqn]
      try rw [List.getElem?_eq_getElem (by rw [cntL_len]; exact hqn), this]
      try rfl
     have hfz := blk_frozen hu1 q
     have HCN := AM (show cntL m.length (L.take (i + 1)) = (cntL m.length (L.take i)).set q ((((L.take i).count (q : Int) : Nat) : Int) + 1) by rw [HTK.out]; exact cntL_snoc m.length (L.take i) q hqn)
     generalize (L.take i).count (q : Int) = cn at *
     clear h0
     go_wp2_with (go_step3)
     go_roundw
     case rel =>
      refine ⟨i + 1, by omega, rfl, ?_, by rw [HC.out]; exact blk_far hu2 (Ne.symm hne) _, Kd.R_far (p := ⟨g1, q, none⟩) hRL (fun k hk => by show k ≠ g1; omega) _, below_set hB (by show w.heap.size ≤ g1; omega)⟩
      rw [HCN.out, ← blkI_set]
      exact blk_set hu1 q _
     case measure => simp [intV]; omega
    ·have hqi : ¬ (q : Int) < (m.length : Int) := by omega
     have hqb : decide ((q : Int) < (m.length : Int)) = false := decide_eq_false hqi
     have HC2 := AM (show cntL m.length (L.take (i + 1)) = cntL m.length (L.take i) by rw [HTK.out]; exact cntL_skip _ _ _ (by omega))
     clear h0
     go_wp2_with (go_step3)
     go_roundw
     case rel => exact ⟨i + 1, by omega, rfl, by rw [HC2.out]; exact hu1, by rw [HC.out]; exact hu2, hRL, hB⟩
     case measure => simp [intV]; omega
  ·have hii : ¬ (i : Int) < (L.length : Int) := by omega
   have hib : decide ((i : Int) < (L.length : Int)) = false := decide_eq_false hii
   rw [List.take_of_length_le hge] at hu1 hu2
   go_wp2_with (go_step3)
   go_ret2
   exact ⟨g1, g2, rfl, hu1, hu2, hB⟩
def ringOk (m : List (List Pt)) (r : List (List Int)) (k : Nat) : Bool := decide ((ringAt m r (k : Int)).2 = 0)
def useOk (L : List Int) (k : Nat) : Bool := decide (L.count (k : Int) ≤ 1 ∧ L.count (-1 - (k : Int)) ≤ 1 ∧ L.count (k : Int) + L.count (-1 - (k : Int)) ≠ 0)
def closesV (m : List (List Pt)) (r : List (List Int)) : Bool := (List.range r.length).all (ringOk m r) && (List.range m.length).all (useOk r.flatten)
theorem all_upto {f : Nat → Bool} {n : Nat} (h : ∀ j, j < n → f j = true) : (List.range n).all f = true := List.all_eq_true.2 fun x hx => h x (List.mem_range.1 hx)
theorem all_not {f : Nat → Bool} {n j : Nat} (hj : j < n) (h : f j = false) : (List.range n).all f = false := by
 rw [Bool.eq_false_iff]
 intro h2
 have := List.all_eq_true.1 h2 j (List.mem_range.2 hj)
 rw [h] at this
 cases this
set_option maxHeartbeats 8000000 in
set_option maxRecDepth 100000 in
theorem Closes_calls (A0 A1 A2 : Option Addr) (c0 c1 c2 : Nat) (m : List (List Pt)) (r p : List (List Int)) (w : World) (hr0 : Kd.C (Kd.slice 27 k27) w A0 m.length m) (hc0 : m.length ≤ c0) (hr1 : Kd.C (Kd.slice 3 (Kd.int .i64)) w A1 r.length r) (hc1 : r.length ≤ c1) (hr2 : Kd.C (Kd.slice 3 (Kd.int .i64)) w A2 p.length p) (hc2 : p.length ≤ c2) (hs : Small m r) (hml : m.length ≤ 1000000) :
  Calls Try.prog 13 #[.agg #[.slice A0 m.length c0, .slice A1 r.length c1, .slice A2 p.length c2]] w fun e w' => e = .returned (.bool (closesV m r)) ∧ Below w.heap.size w w' := by
 have hu25 := Try.underlying25
 have hring : ∀ (k : Int) (W : World), Below w.heap.size w W → Calls Try.prog 33 #[.agg #[.slice A0 m.length c0, .slice A1 r.length c1, .slice A2 p.length c2], .int .i64 k] W fun e w' => ∃ v0_ : Value, e = .returned (.tuple #[v0_, .int .i64 (ringAt m r k).2]) ∧ Kd.R k27 27 w' W.heap.size (fun _ => True) v0_ (ringAt m r k).1 ∧ Below W.heap.size W w' := by
  intro k W hW
  obtain ⟨K, hK⟩ := ringAt_ev hs p k
  exact ring_Ring.calls K A0 c0 m A1 c1 r A2 c2 p k _ _ W (Kd.C_below hr0 hW) hc0 (Kd.C_below hr1 hW) hc1 (Kd.C_below hr2 hW) hc2 (hK K (Nat.le_refl _))
 have huses := fun W (h : Below w.heap.size w W) => Uses_calls A0 A1 A2 c0 c1 c2 m r p W (Kd.C_below hr1 h) hs hml
 have hrl := hs.rings
 have hfl := hs.refs
 have HR := AM (show closesV m r = ((List.range r.length).all (ringOk m r) && (List.range m.length).all (useOk r.flatten)) from rfl)
 generalize closesV m r = R at *
 generalize r.flatten = L at *
 have hcl : ∀ x, L.count x ≤ 20000 := fun x => Nat.le_trans List.count_le_length hfl
 have HRING := AM hring
 have HCL := AM hcl
 clear hring hcl hr0 hr1 hr2
 go_enter Try.func13, Try.ntmps13
 have hba : Below w.heap.size w (w.alloc (.cells #[.slice A0 m.length c0, .slice A1 r.length c1, .slice A2 p.length c2] 25)) := (Below.refl _ w).alloc (Nat.le_refl _) _
 have hga := heap_alloc_new w (.cells #[.slice A0 m.length c0, .slice A1 r.length c1, .slice A2 p.length c2] 25)
 go_upto_region 1 with (go_step3)
 generalize w.alloc (.cells #[.slice A0 m.length c0, .slice A1 r.length c1, .slice A2 p.length c2] 25) = W0 at hba hga ⊢
 have x0 : W0.cell? ⟨w.heap.size, 0, none⟩ = some (.slice A0 m.length c0) := (blk_cell hga 0).trans rfl
 have x1 : W0.cell? ⟨w.heap.size, 1, none⟩ = some (.slice A1 r.length c1) := (blk_cell hga 1).trans rfl
 have x2 : W0.cell? ⟨w.heap.size, 2, none⟩ = some (.slice A2 p.length c2) := (blk_cell hga 2).trans rfl
 go_wp2_with (go_step3)
 go_loopw [13] (fun v wr => ∃ i : Nat, i ≤ r.length ∧ v = .int .i64 i ∧ wr.heap[w.heap.size]? = some (.cells #[.slice A0 m.length c0, .slice A1 r.length c1, .slice A2 p.length c2] 25 (0, 0)) ∧ Aside0 (∀ j, j < i → ringOk m r j = true) ∧ Below w.heap.size w wr) (fun v _ => r.length - (intV v).toNat)
 case atStart => exact ⟨0, by omega, rfl, hga, ⟨fun j hj => absurd hj (by omega)⟩, hba⟩
 case round =>
  clear x0 x1 x2 hga hba
  obtain ⟨i, hi, rfl, hg, HA, hB⟩ := hrel
  have x0 : wr.cell? ⟨w.heap.size, 0, none⟩ = some (.slice A0 m.length c0) := (blk_cell hg 0).trans rfl
  have x1 : wr.cell? ⟨w.heap.size, 1, none⟩ = some (.slice A1 r.length c1) := (blk_cell hg 1).trans rfl
  have x2 : wr.cell? ⟨w.heap.size, 2, none⟩ = some (.slice A2 p.length c2) := (blk_cell hg 2).trans rfl
  rcases Nat.lt_or_ge i r.length with hlt | hge
  ·have hii : (i : Int) < (r.length : Int) := by omega
   have hib : decide ((i : Int) < (r.length : Int)) = true := decide_eq_true hii
   have hr := HRING.out (i : Int) wr hB
   have HOK := AM (show ringOk m r i = decide ((ringAt m r (i : Int)).2 = 0) from rfl)
   generalize ringAt m r (i : Int) = q at *
   obtain ⟨l, e⟩ := q
   simp only at hr HOK
   by_cases he : e = 0
   ·have HN := AM (show ∀ j, j < i + 1 → ringOk m r j = true from fun j hj => by
     rcases Nat.lt_or_ge j i with h | h
     ·exact HA.out j h
     ·rw [show j = i by omega, HOK.out]; exact decide_eq_true he)
    subst he
    go_wp2_with (first | (go_at_call 33; refine hr.mono ?_; rintro ee w2 ⟨v2, rfl, ho2, hb2⟩) | go_step3)
    go_roundw
    case rel => exact ⟨i + 1, by omega, rfl, blk_below hg hb2, HN, below_step hB hb2⟩
    case measure => simp [intV]; omega
   ·have heb : (e != 0) = true := by simpa using he
    have HRF := AM (show R = false by rw [HR.out, all_not hlt (by rw [HOK.out]; exact decide_eq_false he), Bool.false_and])
    go_wp2_with (first | (go_at_call 33; refine hr.mono ?_; rintro ee w2 ⟨v2, rfl, ho2, hb2⟩) | go_step3)
    go_ret
    exact ⟨by rw [HRF.out]; rfl, below_step hB hb2⟩
  ·have hii : ¬ (i : Int) < (r.length : Int) := by omega
   have hib : decide ((i : Int) < (r.length : Int)) = false := decide_eq_false hii
   have HR2 := AM (show R = (List.range m.length).all (useOk L) by rw [HR.out, all_upto (fun j hj => HA.out j (by omega)), Bool.true_and])
   have hus := huses wr hB
   clear huses HA
   go_upto_region 9 with (first | (go_at_call 37; refine hus.mono ?_; rintro ee w2 ⟨g1, g2, rfl, hu1, hu2, hb2⟩) | go_step3)
   clear hus x0 x1 x2
   have hB2 := below_step hB hb2
   clear hb2 hB
   go_wp2_with (go_step3)
   go_loop [32] (fun v => ∃ i : Nat, i ≤ m.length ∧ v = .int .i64 i ∧ Aside0 (∀ j, j < i → useOk L j = true)) (fun v => m.length - (intV v).toNat)
   case atStart => exact ⟨0, by omega, rfl, ⟨fun j hj => absurd hj (by omega)⟩⟩
   case round =>
    obtain ⟨i, hi, rfl, HA⟩ := hrel
    rcases Nat.lt_or_ge i m.length with hlt | hge
    ·have hii : (i : Int) < (m.length : Int) := by omega
     have hib : decide ((i : Int) < (m.length : Int)) = true := decide_eq_true hii
     have hcu : w2.cell? ⟨g1, i, none⟩ = some (.int .i64 ((L.count (i : Int) : Nat) : Int)) := by
      rw [blk_cell hu1 i]
      unfold blkI
      have := cntL_get m.length L i hlt
      simp [this, cntL_len, hlt]
      try rw [List.getElem?_eq_getElem (by rw [cntL_len]; exact hlt), this]
      try rfl
     have hcv : w2.cell? ⟨g2, i, none⟩ = some (.int .i64 ((L.count (-1 - (i : Int)) : Nat) : Int)) := by
      rw [blk_cell hu2 i]
      unfold blkI
      have := bckL_get m.length L i hlt
      simp [this, bckL_len, hlt]
      try rw [List.getElem?_eq_getElem (by rw [bckL_len]; exact hlt), this]
      try rfl
     have h1 := HCL.out (i : Int)
     have h2 := HCL.out (-1 - (i : Int))
     have HU := AM (show useOk L i = decide (L.count (i : Int) ≤ 1 ∧ L.count (-1 - (i : Int)) ≤ 1 ∧ L.count (i : Int) + L.count (-1 - (i : Int)) ≠ 0) from rfl)
     generalize L.count (i : Int) = a at *
     generalize L.count (-1 - (i : Int)) = b at *
     by_cases ha : (a : Int) > 1
     ·have HRF := AM (show R = false by rw [HR2.out, all_not hlt (by rw [HU.out]; exact decide_eq_false (by omega))])
      go_wp2_with (go_step3)
      go_ret
      exact ⟨by rw [HRF.out]; rfl, hB2⟩
     ·by_cases hb : (b : Int) > 1
      ·have HRF := AM (show R = false by rw [HR2.out, all_not hlt (by rw [HU.out]; exact decide_eq_false (by omega))])
       go_wp2_with (go_step3)
       go_ret
       exact ⟨by rw [HRF.out]; rfl, hB2⟩
      ·by_cases hab : (a : Int) + (b : Int) = 0
       ·have HRF := AM (show R = false by rw [HR2.out, all_not hlt (by rw [HU.out]; exact decide_eq_false (by omega))])
        have hsb : ((a : Int) + (b : Int) == 0) = true := by rw [hab]; rfl
        clear hab HU
        go_wp2_with (go_step3)
        go_ret
        exact ⟨by rw [HRF.out]; rfl, hB2⟩
       ·have HN := AM (show ∀ j, j < i + 1 → useOk L j = true from fun j hj => by
         rcases Nat.lt_or_ge j i with h | h
         ·exact HA.out j h
         ·rw [show j = i by omega, HU.out]; exact decide_eq_true (by omega))
        have hsb : ((a : Int) + (b : Int) == 0) = false := by simpa using hab
        clear hab HU
        go_wp2_with (go_step3)
        go_round
        case rel => exact ⟨i + 1, by omega, rfl, HN⟩
        case measure => simp [intV]; omega
    ·have hii : ¬ (i : Int) < (m.length : Int) := by omega
     have hib : decide ((i : Int) < (m.length : Int)) = false := decide_eq_false hii
     have HRF := AM (show R = true by rw [HR2.out]; exact all_upto (fun j hj => HA.out j (by omega)))
     go_wp2_with (go_step3)
     go_ret
     exact ⟨by rw [HRF.out]; rfl, hB2⟩
end Go.Proofs.Ytbonkedecfjmdaa.Pl

namespace Go.Proofs.Ytbonkedecfjmdaa.P
open Go.RowKit Go.Proofs.YtbonkedecfjmdaaW.PrintWords Go.Proofs.YtbonkedecfjmdaaW.PrintLast Go.Proofs.YtbonkedecfjmdaaW.PrintMore Go.Proofs.Ytbonkedecfjmdaa.X
attribute [local go_sem] max2_int min2_int max_two min_two max_three min_three max_four min_four add64_0 add64_1 add64
set_option linter.unusedVariables false
set_option linter.unusedSimpArgs false
def plan_Closes.f (l0_0 : List (List (S27))) (l0_1 : List (List Int)) (l0_2 : List (List Int)) : Option (Bool) := if (∀ x ∈ l0_0, x.length ≤ 20000) ∧ l0_1.length ≤ 20000 ∧ l0_1.flatten.length ≤ 20000 ∧ (∀ x ∈ l0_1, ∀ n ∈ x, -9223372036854775808 ≤ n ∧ n ≤ 9223372036854775807) ∧ l0_0.length ≤ 1000000 then (some (Pl.closesV l0_0 l0_1)) else (none)
set_option maxHeartbeats 8000000 in
set_option maxRecDepth 100000 in
theorem plan_Closes.calls (A0_0 : Option Addr) (c0_0 : Nat) (l0_0 : List (List (S27))) (A0_1 : Option Addr) (c0_1 : Nat) (l0_1 : List (List Int)) (A0_2 : Option Addr) (c0_2 : Nat) (l0_2 : List (List Int)) (r : Bool) (w : World) (hr0_0 : Kd.C (Kd.slice 27 k27) w A0_0 l0_0.length l0_0) (hc0_0 : l0_0.length ≤ c0_0) (hr0_1 : Kd.C (Kd.slice 3 (Kd.int .i64)) w A0_1 l0_1.length l0_1) (hc0_1 : l0_1.length ≤ c0_1) (hr0_2 : Kd.C (Kd.slice 3 (Kd.int .i64)) w A0_2 l0_2.length l0_2) (hc0_2 : l0_2.length ≤ c0_2) (h : plan_Closes.f l0_0 l0_1 l0_2 = some r) :
  Calls Try.prog 13 #[.agg #[.slice A0_0 l0_0.length c0_0, .slice A0_1 l0_1.length c0_1, .slice A0_2 l0_2.length c0_2]] w fun e w' => e = .returned (.bool r) ∧ Below w.heap.size w w' := by
 unfold plan_Closes.f at h
 by_cases hl : (∀ x ∈ l0_0, x.length ≤ 20000) ∧ l0_1.length ≤ 20000 ∧ l0_1.flatten.length ≤ 20000 ∧ (∀ x ∈ l0_1, ∀ n ∈ x, -9223372036854775808 ≤ n ∧ n ≤ 9223372036854775807) ∧ l0_0.length ≤ 1000000
 ·rw [if_pos hl] at h
  obtain rfl := Option.some.inj h
  exact Pl.Closes_calls A0_0 A0_1 A0_2 c0_0 c0_1 c0_2 l0_0 l0_1 l0_2 w hr0_0 hc0_0 hr0_1 hc0_1 hr0_2 hc0_2 ⟨hl.1, hl.2.1, hl.2.2.1, hl.2.2.2.1⟩ hl.2.2.2.2
 ·rw [if_neg hl] at h; cases h

def plan_Fills.f (l0_0 : List (List (S27))) (l0_1 : List (List Int)) (l0_2 : List (List Int)) : Option (Bool) := if (∀ x ∈ l0_0, x.length ≤ 20000) ∧ l0_1.length ≤ 20000 ∧ l0_1.flatten.length ≤ 20000 ∧ (∀ x ∈ l0_1, ∀ n ∈ x, -9223372036854775808 ≤ n ∧ n ≤ 9223372036854775807) ∧ l0_2.length ≤ 20000 ∧ l0_2.flatten.length ≤ 20000 then (some (Pl.FillsV l0_0 l0_1 l0_2)) else (none)
set_option maxHeartbeats 8000000 in
set_option maxRecDepth 100000 in
theorem plan_Fills.calls (A0_0 : Option Addr) (c0_0 : Nat) (l0_0 : List (List (S27))) (A0_1 : Option Addr) (c0_1 : Nat) (l0_1 : List (List Int)) (A0_2 : Option Addr) (c0_2 : Nat) (l0_2 : List (List Int)) (r : Bool) (w : World) (hr0_0 : Kd.C (Kd.slice 27 k27) w A0_0 l0_0.length l0_0) (hc0_0 : l0_0.length ≤ c0_0) (hr0_1 : Kd.C (Kd.slice 3 (Kd.int .i64)) w A0_1 l0_1.length l0_1) (hc0_1 : l0_1.length ≤ c0_1) (hr0_2 : Kd.C (Kd.slice 3 (Kd.int .i64)) w A0_2 l0_2.length l0_2) (hc0_2 : l0_2.length ≤ c0_2) (h : plan_Fills.f l0_0 l0_1 l0_2 = some r) :
  Calls Try.prog 15 #[.agg #[.slice A0_0 l0_0.length c0_0, .slice A0_1 l0_1.length c0_1, .slice A0_2 l0_2.length c0_2]] w fun e w' => e = .returned (.bool r) ∧ Below w.heap.size w w' := by
 unfold plan_Fills.f at h
 by_cases hl : (∀ x ∈ l0_0, x.length ≤ 20000) ∧ l0_1.length ≤ 20000 ∧ l0_1.flatten.length ≤ 20000 ∧ (∀ x ∈ l0_1, ∀ n ∈ x, -9223372036854775808 ≤ n ∧ n ≤ 9223372036854775807) ∧ l0_2.length ≤ 20000 ∧ l0_2.flatten.length ≤ 20000
 ·rw [if_pos hl] at h
  obtain rfl := Option.some.inj h
  exact Pl.Fills_calls A0_0 A0_1 A0_2 c0_0 c0_1 c0_2 l0_0 l0_1 l0_2 w hr0_0 hc0_0 hr0_1 hc0_1 hr0_2 hc0_2 ⟨hl.1, hl.2.1, hl.2.2.1, hl.2.2.2.1⟩ hl.2.2.2.2.1 hl.2.2.2.2.2
 ·rw [if_neg hl] at h; cases h

def lw_one.f  : Option ((List (List (S27))) × (List (List Int)) × (List (List Int))) := some ((([(([(⟨0, 0, 0⟩ : S27), (⟨1, 0, 0⟩ : S27), (⟨0, 1, 0⟩ : S27), (⟨0, 0, 0⟩ : S27)] : List (S27)))] : List (List (S27)))), (([(([0] : List Int))] : List (List Int))), (([(([0] : List Int))] : List (List Int))))
set_option maxHeartbeats 8000000 in
set_option maxRecDepth 100000 in
theorem lw_one.calls  (r1 : List (List (S27))) (r2 : List (List Int)) (r3 : List (List Int)) (w : World) (h : lw_one.f  = some (r1, r2, r3)) :
  Calls Try.prog 30 #[] w fun e w' => ∃ v0_ v1_ v2_ : Value, e = .returned (.agg #[v0_, v1_, v2_]) ∧ Kd.N (Kd.slice 27 k27) 31 w' w.heap.size (fun k_ => (w.heap.size ≤ k_) ∧ some k_ ≠ (v1_ : Value).ownBlock ∧ some k_ ≠ (v2_ : Value).ownBlock) v0_ r1 ∧ Kd.N (Kd.slice 3 (Kd.int .i64)) 32 w' w.heap.size (fun k_ => (w.heap.size ≤ k_) ∧ some k_ ≠ (v0_ : Value).ownBlock ∧ some k_ ≠ (v2_ : Value).ownBlock) v1_ r2 ∧ Kd.N (Kd.slice 3 (Kd.int .i64)) 32 w' w.heap.size (fun k_ => (w.heap.size ≤ k_) ∧ some k_ ≠ (v0_ : Value).ownBlock ∧ some k_ ≠ (v1_ : Value).ownBlock) v2_ r3 ∧ Below w.heap.size w w' := by
 have hu25 := Try.underlying25
 have hu27 := Try.underlying27
 have HB := AM (Below.refl w.heap.size w)
 have H : (some ((([(([(⟨0, 0, 0⟩ : S27), (⟨1, 0, 0⟩ : S27), (⟨0, 1, 0⟩ : S27), (⟨0, 0, 0⟩ : S27)] : List (S27)))] : List (List (S27)))), (([(([0] : List Int))] : List (List Int))), (([(([0] : List Int))] : List (List Int))))) = some (r1, r2, r3) := h
 clear h
 obtain ⟨y695, hy695⟩ : ∃ y_ : List (S27), y_ = (([(⟨0, 0, 0⟩ : S27), (⟨1, 0, 0⟩ : S27), (⟨0, 1, 0⟩ : S27), (⟨0, 0, 0⟩ : S27)] : List (S27))) := ⟨_, rfl⟩
 replace H : (some ((([y695] : List (List (S27)))), (([(([0] : List Int))] : List (List Int))), (([(([0] : List Int))] : List (List Int))))) = some (r1, r2, r3) := by first | (rw [hy695]; with_reducible exact H) | (have H2_ := (Option.bind_some _ _).symm.trans H; rw [hy695]; with_reducible exact H2_) | (have H2_ := (Option.bind_some _ _).symm.trans H; with_reducible exact H2_) | with_reducible exact H | (rw [hy695]; exact H) | exact H
 have Ny695 := AM hy695
 clear hy695
 obtain ⟨y698, hy698⟩ : ∃ y_ : List (List (S27)), y_ = (([y695] : List (List (S27)))) := ⟨_, rfl⟩
 replace H : (some (y698, (([(([0] : List Int))] : List (List Int))), (([(([0] : List Int))] : List (List Int))))) = some (r1, r2, r3) := by first | (rw [hy698]; with_reducible exact H) | (have H2_ := (Option.bind_some _ _).symm.trans H; rw [hy698]; with_reducible exact H2_) | (have H2_ := (Option.bind_some _ _).symm.trans H; with_reducible exact H2_) | with_reducible exact H | (rw [hy698]; exact H) | exact H
 have Ny698 := AM hy698
 clear hy698
 obtain ⟨y701, hy701⟩ : ∃ y_ : List Int, y_ = (([0] : List Int)) := ⟨_, rfl⟩
 replace H : (some (y698, (([y701] : List (List Int))), (([(([0] : List Int))] : List (List Int))))) = some (r1, r2, r3) := by first | (rw [hy701]; with_reducible exact H) | (have H2_ := (Option.bind_some _ _).symm.trans H; rw [hy701]; with_reducible exact H2_) | (have H2_ := (Option.bind_some _ _).symm.trans H; with_reducible exact H2_) | with_reducible exact H | (rw [hy701]; exact H) | exact H
 have Ny701 := AM hy701
 clear hy701
 obtain ⟨y704, hy704⟩ : ∃ y_ : List (List Int), y_ = (([y701] : List (List Int))) := ⟨_, rfl⟩
 replace H : (some (y698, y704, (([(([0] : List Int))] : List (List Int))))) = some (r1, r2, r3) := by first | (rw [hy704]; with_reducible exact H) | (have H2_ := (Option.bind_some _ _).symm.trans H; rw [hy704]; with_reducible exact H2_) | (have H2_ := (Option.bind_some _ _).symm.trans H; with_reducible exact H2_) | with_reducible exact H | (rw [hy704]; exact H) | exact H
 have Ny704 := AM hy704
 clear hy704
 obtain ⟨y707, hy707⟩ : ∃ y_ : List Int, y_ = (([0] : List Int)) := ⟨_, rfl⟩
 replace H : (some (y698, y704, (([y707] : List (List Int))))) = some (r1, r2, r3) := by first | (rw [hy707]; with_reducible exact H) | (have H2_ := (Option.bind_some _ _).symm.trans H; rw [hy707]; with_reducible exact H2_) | (have H2_ := (Option.bind_some _ _).symm.trans H; with_reducible exact H2_) | with_reducible exact H | (rw [hy707]; exact H) | exact H
 have Ny707 := AM hy707
 clear hy707
 obtain ⟨y710, hy710⟩ : ∃ y_ : List (List Int), y_ = (([y707] : List (List Int))) := ⟨_, rfl⟩
 replace H : (some (y698, y704, y710)) = some (r1, r2, r3) := by first | (rw [hy710]; with_reducible exact H) | (have H2_ := (Option.bind_some _ _).symm.trans H; rw [hy710]; with_reducible exact H2_) | (have H2_ := (Option.bind_some _ _).symm.trans H; with_reducible exact H2_) | with_reducible exact H | (rw [hy710]; exact H) | exact H
 have Ny710 := AM hy710
 clear hy710
 simp only [Option.some.injEq, Prod.mk.injEq] at H
 obtain ⟨rfl, rfl, rfl⟩ := H
 go_enter Try.func30, Try.ntmps30
 go_wp2_with (first | ((with_reducible refine gate_dst (N := 0) rfl ?_); refine bE 0 #[.slice none 0 0, .slice none 0 0, .slice none 0 0] 25 ?_; intro gb694 hg w1 hbox hb; have BK694 := AM hbox; have GW694 := kG HB hg; replace HB := kH HB hb; have GE694 := GW694; clear hb hbox hg) | ((with_reducible refine gate_dst (N := 5) rfl ?_); refine Kd.R_lit k27 _ 27 ?hg (N := 5) ?hd (xs := ([(⟨0, 0, 0⟩ : S27), (⟨1, 0, 0⟩ : S27), (⟨0, 1, 0⟩ : S27), (⟨0, 0, 0⟩ : S27)] : List (S27))) (inner := [.int .i64 0, .int .i64 0, .int .i64 0, .int .i64 1, .int .i64 0, .int .i64 0, .int .i64 0, .int .i64 1, .int .i64 0, .int .i64 0, .int .i64 0, .int .i64 0]) (ok := fun _ => True) (okp := fun _ => True) ?hr ?hp (fun _ hk => hk) trivial (Below.refl _ _) (Nat.le_refl _) (by simp) ?_; (case hd => rfl); (case hg => rfl); (case hr => first | (go_simp; done) | (go_simp; rfl)); (case hp => exact (Reps.c3 (show Kd.M k27 _ _ _ (⟨0, 0, 0⟩ : S27) [.int .i64 0, .int .i64 0, .int .i64 0] from (k27_mkM _ _ _ (⟨0, 0, 0⟩ : S27) )) (Reps.c3 (show Kd.M k27 _ _ _ (⟨1, 0, 0⟩ : S27) [.int .i64 1, .int .i64 0, .int .i64 0] from (k27_mkM _ _ _ (⟨1, 0, 0⟩ : S27) )) (Reps.c3 (show Kd.M k27 _ _ _ (⟨0, 1, 0⟩ : S27) [.int .i64 0, .int .i64 1, .int .i64 0] from (k27_mkM _ _ _ (⟨0, 1, 0⟩ : S27) )) (Reps.c3 (show Kd.M k27 _ _ _ (⟨0, 0, 0⟩ : S27) [.int .i64 0, .int .i64 0, .int .i64 0] from (k27_mkM _ _ _ (⟨0, 0, 0⟩ : S27) )) (Reps.none _ _)))))); intro v696 w2 ho3 hb hg_ hnew_; clear hg_ hnew_; (first | rw [← Ny695.out] at ho3 | (simp only [Int.reduceToNat] at ho3; rw [← Ny695.out] at ho3)); have HO697 := AM (Kd.R_lower (Kd.R_newM (M := fun k_ => (w.heap.size ≤ k_)) ho3 (below_size (bH HB)) (fun k_ h_ => h_)) (below_size (bH HB))); replace BK694 := kB BK694 hb; replace HB := kH HB hb; clear hb ho3; obtain ⟨Ao4, co4, eo4⟩ := Kd.R_slice HO697.out; subst eo4) | ((with_reducible refine gate_dst (N := 6) rfl ?_); refine Kd.N_lit (Kd.slice 27 k27) _ 31 ?hg (N' := 6) ?hd (xs := ([y695] : List (List (S27)))) (inner := [.slice Ao4 y695.length co4]) (ok := (fun k_ => (w.heap.size ≤ k_) ∧ k_ ≠ gb694)) (okp := (fun k_ => (w.heap.size ≤ k_) ∧ k_ ≠ gb694)) ?hr ?hp (fun _ hk => hk) ((show ∀ k_, w2.heap.size ≤ k_ → (fun k_ => (w.heap.size ≤ k_) ∧ k_ ≠ gb694) k_ from fun k_ hk => ⟨(Nat.le_trans (below_size (bH HB)) hk), Kd.freshB (g := gb694) (o := .cells #[.slice none 0 0, .slice none 0 0, .slice none 0 0] 25 (0, 0)) (bK BK694) k_ hk⟩) _ (Nat.le_refl _)) (Below.refl _ _) (Nat.le_refl _) (by simp) ?_; (case hd => rfl); (case hg => rfl); (case hr => first | (go_simp; done) | (go_simp; rfl)); (case hp => exact (Reps.one (show Kd.FK (Kd.slice 27 k27) _ _ y695 [.slice Ao4 y695.length co4] from (Kd.FK_slice_mk (Kd.R_reads' (Kd.R_mono (ok' := (fun k_ => (w.heap.size ≤ k_) ∧ k_ ≠ gb694)) (Kd.R_types (HO697.out) BK694.out (by decide)) (fun k_ hk => ⟨hk.1.1, hk.2⟩))).2.1 (Kd.R_F (Kd.R_mono (ok' := (fun k_ => (w.heap.size ≤ k_) ∧ k_ ≠ gb694)) (Kd.R_types (HO697.out) BK694.out (by decide)) (fun k_ hk => ⟨hk.1.1, hk.2⟩))))) (Reps.none _ _))); intro v699 w5 ho6 hb hg_ hnew_; clear hg_ hnew_; (first | rw [← Ny698.out] at ho6 | (simp only [Int.reduceToNat] at ho6; rw [← Ny698.out] at ho6)); have HO700 := AM (Kd.N_lower ho6 (below_size (bH HB))); replace BK694 := kB BK694 hb; replace HB := kH HB hb; clear HO697; clear hb ho6) | ((with_reducible refine gate_dst (N := 7) rfl ?_); refine Kd.R_lit (Kd.int .i64) _ 3 ?hg (N := 7) ?hd (xs := ([0] : List Int)) (inner := [.int .i64 0]) (ok := fun _ => True) (okp := fun _ => True) ?hr ?hp (fun _ hk => hk) trivial (Below.refl _ _) (Nat.le_refl _) (by simp) ?_; (case hd => rfl); (case hg => rfl); (case hr => first | (go_simp; done) | (go_simp; rfl)); (case hp => exact (Reps.one (show Kd.M (Kd.int .i64) _ _ _ 0 [.int .i64 0] from rfl) (Reps.none _ _))); intro v702 w7 ho8 hb hg_ hnew_; clear hg_ hnew_; (first | rw [← Ny701.out] at ho8 | (simp only [Int.reduceToNat] at ho8; rw [← Ny701.out] at ho8)); replace HO700 := AM (Kd.N_elder' (by (with_reducible repeat (first | apply Kd.N_alloc | apply Kd.N_drewN | apply Kd.N_drew)); exact HO700.out) (Kd.R_base ho8) hb); have HO703 := AM (Kd.R_lower (Kd.R_newM (M := fun k_ => (w.heap.size ≤ k_)) ho8 (below_size (bH HB)) (fun k_ h_ => h_)) (below_size (bH HB))); replace BK694 := kB BK694 hb; replace HB := kH HB hb; clear hb ho8; obtain ⟨Ao9, co9, eo9⟩ := Kd.R_slice HO703.out; subst eo9) | ((with_reducible refine gate_dst (N := 8) rfl ?_); refine Kd.N_lit (Kd.slice 3 (Kd.int .i64)) _ 32 ?hg (N' := 8) ?hd (xs := ([y701] : List (List Int))) (inner := [.slice Ao9 y701.length co9]) (ok := (fun k_ => (w.heap.size ≤ k_) ∧ some k_ ≠ (v699 : Value).ownBlock ∧ k_ ≠ gb694)) (okp := (fun k_ => (w.heap.size ≤ k_) ∧ some k_ ≠ (v699 : Value).ownBlock ∧ k_ ≠ gb694)) ?hr ?hp (fun _ hk => hk) ((show ∀ k_, w7.heap.size ≤ k_ → (fun k_ => (w.heap.size ≤ k_) ∧ some k_ ≠ (v699 : Value).ownBlock ∧ k_ ≠ gb694) k_ from fun k_ hk => ⟨(Nat.le_trans (below_size (bH HB)) hk), Kd.fresh' (Kd.N_lt (by (with_reducible repeat (first | apply Kd.N_alloc | apply Kd.N_drewN | apply Kd.N_drew)); exact HO700.out)) k_ hk, Kd.freshB (g := gb694) (o := .cells #[.slice none 0 0, .slice none 0 0, .slice none 0 0] 25 (0, 0)) (bK BK694) k_ hk⟩) _ (Nat.le_refl _)) (Below.refl _ _) (Nat.le_refl _) (by simp) ?_; (case hd => rfl); (case hg => rfl); (case hr => first | (go_simp; done) | (go_simp; rfl)); (case hp => exact (Reps.one (show Kd.FK (Kd.slice 3 (Kd.int .i64)) _ _ y701 [.slice Ao9 y701.length co9] from (Kd.FK_slice_mk (Kd.R_reads' (Kd.R_mono (ok' := (fun k_ => (w.heap.size ≤ k_) ∧ some k_ ≠ (v699 : Value).ownBlock ∧ k_ ≠ gb694)) (Kd.R_types (Kd.R_apart' (HO703.out) (Kd.N_typed HO700.out) (by decide)) BK694.out (by decide)) (fun k_ hk => ⟨hk.1.1.1, ⟨hk.1.2, hk.2⟩⟩))).2.1 (Kd.R_F (Kd.R_mono (ok' := (fun k_ => (w.heap.size ≤ k_) ∧ some k_ ≠ (v699 : Value).ownBlock ∧ k_ ≠ gb694)) (Kd.R_types (Kd.R_apart' (HO703.out) (Kd.N_typed HO700.out) (by decide)) BK694.out (by decide)) (fun k_ hk => ⟨hk.1.1.1, ⟨hk.1.2, hk.2⟩⟩))))) (Reps.none _ _))); intro v705 w10 ho11 hb hg_ hnew_; clear hg_ hnew_; (first | rw [← Ny704.out] at ho11 | (simp only [Int.reduceToNat] at ho11; rw [← Ny704.out] at ho11)); replace HO700 := AM (Kd.N_elder' (by (with_reducible repeat (first | apply Kd.N_alloc | apply Kd.N_drewN | apply Kd.N_drew)); exact HO700.out) (Kd.N_base ho11) hb); have HO706 := AM (Kd.N_lower ho11 (below_size (bH HB))); replace BK694 := kB BK694 hb; replace HB := kH HB hb; clear HO703; clear hb ho11) | ((with_reducible refine gate_dst (N := 9) rfl ?_); refine Kd.R_lit (Kd.int .i64) _ 3 ?hg (N := 9) ?hd (xs := ([0] : List Int)) (inner := [.int .i64 0]) (ok := fun _ => True) (okp := fun _ => True) ?hr ?hp (fun _ hk => hk) trivial (Below.refl _ _) (Nat.le_refl _) (by simp) ?_; (case hd => rfl); (case hg => rfl); (case hr => first | (go_simp; done) | (go_simp; rfl)); (case hp => exact (Reps.one (show Kd.M (Kd.int .i64) _ _ _ 0 [.int .i64 0] from rfl) (Reps.none _ _))); intro v708 w12 ho13 hb hg_ hnew_; clear hg_ hnew_; (first | rw [← Ny707.out] at ho13 | (simp only [Int.reduceToNat] at ho13; rw [← Ny707.out] at ho13)); replace HO700 := AM (Kd.N_elder' (by (with_reducible repeat (first | apply Kd.N_alloc | apply Kd.N_drewN | apply Kd.N_drew)); exact HO700.out) (Kd.R_base ho13) hb); replace HO706 := AM (Kd.N_elder' (by (with_reducible repeat (first | apply Kd.N_alloc | apply Kd.N_drewN | apply Kd.N_drew)); exact HO706.out) (Kd.R_base ho13) hb); have HO709 := AM (Kd.R_lower (Kd.R_newM (M := fun k_ => (w.heap.size ≤ k_)) ho13 (below_size (bH HB)) (fun k_ h_ => h_)) (below_size (bH HB))); replace BK694 := kB BK694 hb; replace HB := kH HB hb; clear hb ho13; obtain ⟨Ao14, co14, eo14⟩ := Kd.R_slice HO709.out; subst eo14) | ((with_reducible refine gate_dst (N := 10) rfl ?_); refine Kd.N_lit (Kd.slice 3 (Kd.int .i64)) _ 32 ?hg (N' := 10) ?hd (xs := ([y707] : List (List Int))) (inner := [.slice Ao14 y707.length co14]) (ok := (fun k_ => (w.heap.size ≤ k_) ∧ some k_ ≠ (v699 : Value).ownBlock ∧ some k_ ≠ (v705 : Value).ownBlock ∧ k_ ≠ gb694)) (okp := (fun k_ => (w.heap.size ≤ k_) ∧ some k_ ≠ (v699 : Value).ownBlock ∧ some k_ ≠ (v705 : Value).ownBlock ∧ k_ ≠ gb694)) ?hr ?hp (fun _ hk => hk) ((show ∀ k_, w12.heap.size ≤ k_ → (fun k_ => (w.heap.size ≤ k_) ∧ some k_ ≠ (v699 : Value).ownBlock ∧ some k_ ≠ (v705 : Value).ownBlock ∧ k_ ≠ gb694) k_ from fun k_ hk => ⟨(Nat.le_trans (below_size (bH HB)) hk), Kd.fresh' (Kd.N_lt (by (with_reducible repeat (first | apply Kd.N_alloc | apply Kd.N_drewN | apply Kd.N_drew)); exact HO700.out)) k_ hk, Kd.fresh' (Kd.N_lt (by (with_reducible repeat (first | apply Kd.N_alloc | apply Kd.N_drewN | apply Kd.N_drew)); exact HO706.out)) k_ hk, Kd.freshB (g := gb694) (o := .cells #[.slice none 0 0, .slice none 0 0, .slice none 0 0] 25 (0, 0)) (bK BK694) k_ hk⟩) _ (Nat.le_refl _)) (Below.refl _ _) (Nat.le_refl _) (by simp) ?_; (case hd => rfl); (case hg => rfl); (case hr => first | (go_simp; done) | (go_simp; rfl)); (case hp => exact (Reps.one (show Kd.FK (Kd.slice 3 (Kd.int .i64)) _ _ y707 [.slice Ao14 y707.length co14] from (Kd.FK_slice_mk (Kd.R_reads' (Kd.R_mono (ok' := (fun k_ => (w.heap.size ≤ k_) ∧ some k_ ≠ (v699 : Value).ownBlock ∧ some k_ ≠ (v705 : Value).ownBlock ∧ k_ ≠ gb694)) (Kd.R_types (Kd.R_apart' (Kd.R_apart' (HO709.out) (Kd.N_typed HO700.out) (by decide)) (Kd.N_typed HO706.out) (by decide)) BK694.out (by decide)) (fun k_ hk => ⟨hk.1.1.1.1, ⟨hk.1.1.2, ⟨hk.1.2, hk.2⟩⟩⟩))).2.1 (Kd.R_F (Kd.R_mono (ok' := (fun k_ => (w.heap.size ≤ k_) ∧ some k_ ≠ (v699 : Value).ownBlock ∧ some k_ ≠ (v705 : Value).ownBlock ∧ k_ ≠ gb694)) (Kd.R_types (Kd.R_apart' (Kd.R_apart' (HO709.out) (Kd.N_typed HO700.out) (by decide)) (Kd.N_typed HO706.out) (by decide)) BK694.out (by decide)) (fun k_ hk => ⟨hk.1.1.1.1, ⟨hk.1.1.2, ⟨hk.1.2, hk.2⟩⟩⟩))))) (Reps.none _ _))); intro v711 w15 ho16 hb hg_ hnew_; clear hg_ hnew_; (first | rw [← Ny710.out] at ho16 | (simp only [Int.reduceToNat] at ho16; rw [← Ny710.out] at ho16)); replace HO700 := AM (Kd.N_elder' (by (with_reducible repeat (first | apply Kd.N_alloc | apply Kd.N_drewN | apply Kd.N_drew)); exact HO700.out) (Kd.N_base ho16) hb); replace HO706 := AM (Kd.N_elder' (by (with_reducible repeat (first | apply Kd.N_alloc | apply Kd.N_drewN | apply Kd.N_drew)); exact HO706.out) (Kd.N_base ho16) hb); have HO712 := AM (Kd.N_lower ho16 (below_size (bH HB))); replace BK694 := kB BK694 hb; replace HB := kH HB hb; clear HO709; clear hb ho16; obtain ⟨Ao17, co17, eo17⟩ := Kd.N_slice HO712.out; subst eo17; obtain ⟨Ao18, co18, eo18⟩ := Kd.N_slice HO706.out; subst eo18; obtain ⟨Ao19, co19, eo19⟩ := Kd.N_slice HO700.out; subst eo19; obtain ⟨hcz20_0, hcz20_1, hcz20_2, hfz20_0, hfz20_1, hfz20_2⟩ := c3 BK694))
 refine bodyPost_ret (results_cell_row rfl _ _ gb694 25 #[.slice Ao19 y698.length co19, .slice Ao18 y704.length co18, .slice Ao17 y710.length co17] (0, 0) _ rfl (by (with_reducible repeat (first | refine blk_drewN ?_ _ | refine blk_drew ?_ | refine blk_alloc ?_ _)); refine blk_put (cs := #[.slice Ao19 y698.length co19, .slice Ao18 y704.length co18, .slice none 0 0]) ?_ 2 _ rfl; (with_reducible repeat (first | refine blk_drewN ?_ _ | refine blk_drew ?_ | refine blk_alloc ?_ _)); refine blk_put (cs := #[.slice Ao19 y698.length co19, .slice none 0 0, .slice none 0 0]) ?_ 1 _ rfl; (with_reducible repeat (first | refine blk_drewN ?_ _ | refine blk_drew ?_ | refine blk_alloc ?_ _)); refine blk_put (cs := #[.slice none 0 0, .slice none 0 0, .slice none 0 0]) ?_ 0 _ rfl; (with_reducible repeat (first | refine blk_drewN ?_ _ | refine blk_drew ?_ | refine blk_alloc ?_ _)); exact BK694.out) Try.underlying25 rfl (by kernel_rfl)) rfl ?_
 exact ⟨_, _, _, rE, by (with_reducible repeat (first | apply Kd.N_alloc | apply Kd.N_drewN | apply Kd.N_drew)); exact Kd.N_mono (Kd.N_far (p := ⟨gb694, 2, none⟩) (Kd.N_far (p := ⟨gb694, 1, none⟩) (Kd.N_far (p := ⟨gb694, 0, none⟩) (Kd.N_mono HO700.out (fun k_ hk => (⟨hk, hk.1.1.1.1.2⟩ : _ ∧ k_ ≠ gb694))) (fun _ hk => hk.2) (.slice Ao19 y698.length co19)) (fun _ hk => hk.2) (.slice Ao18 y704.length co18)) (fun _ hk => hk.2) (.slice Ao17 y710.length co17)) (fun _ hk => ⟨hk.1.1.1.1.1.1, ⟨hk.1.1.1.2, hk.1.2⟩⟩), by (with_reducible repeat (first | apply Kd.N_alloc | apply Kd.N_drewN | apply Kd.N_drew)); exact Kd.N_mono (Kd.N_far (p := ⟨gb694, 2, none⟩) (Kd.N_far (p := ⟨gb694, 1, none⟩) (Kd.N_far (p := ⟨gb694, 0, none⟩) (Kd.N_mono HO706.out (fun k_ hk => (⟨hk, hk.1.1.2.2⟩ : _ ∧ k_ ≠ gb694))) (fun _ hk => hk.2) (.slice Ao19 y698.length co19)) (fun _ hk => hk.2) (.slice Ao18 y704.length co18)) (fun _ hk => hk.2) (.slice Ao17 y710.length co17)) (fun _ hk => ⟨hk.1.1.1.1, ⟨hk.1.1.1.2.1, hk.1.2⟩⟩), by (with_reducible repeat (first | apply Kd.N_alloc | apply Kd.N_drewN | apply Kd.N_drew)); exact Kd.N_mono (Kd.N_far (p := ⟨gb694, 2, none⟩) (Kd.N_far (p := ⟨gb694, 1, none⟩) (Kd.N_far (p := ⟨gb694, 0, none⟩) (Kd.N_mono HO712.out (fun k_ hk => (⟨hk, hk.2.2.2⟩ : _ ∧ k_ ≠ gb694))) (fun _ hk => hk.2) (.slice Ao19 y698.length co19)) (fun _ hk => hk.2) (.slice Ao18 y704.length co18)) (fun _ hk => hk.2) (.slice Ao17 y710.length co17)) (fun _ hk => ⟨hk.1.1, ⟨hk.1.2.1, hk.1.2.2.1⟩⟩), bH HB⟩
end Go.Proofs.Ytbonkedecfjmdaa.P
