/- Whether a polygon fills: the values, and the program's walk. No condition. Written for this claim by a program of this session (a turned copy of the print): Go functions as Lean functions, and that the Go code comes to just these answers; or a statement proved out of them. No condition. Whether all polygons fill: the values, and the program's walk. No condition. -/
import Derived.Test.YtbonkedecfjmdaaZ22
import Derived.Test.YtbonkedecfjmdaaZ19
import Derived.Test.YtbonkedecfjmdaaZ18
import Derived.Test.YtbonkedecfjmdaaZ15
import Derived.Test.YtbonkedecfjmdaaZ2

namespace Go.Proofs.Ytbonkedecfjmdaa.Pl
set_option linter.unusedVariables false
set_option linter.unusedSimpArgs false
open Go Go.RowKit Go.Proofs.Ytbonkedecfjmdaa.P Go.Proofs.Ytbonkedecfjmdaa.G Go.Proofs.Ytbonkedecfjmdaa.WL Go.Proofs.YtbonkedecfjmdaaW.PrintWords Go.Proofs.YtbonkedecfjmdaaW.PrintLast Go.Proofs.YtbonkedecfjmdaaW.PrintMore
def wf64 (n : Int) : Prop := -9223372036854775808 ≤ n ∧ n ≤ 9223372036854775807
structure Small (m : List (List Pt)) (r : List (List Int)) : Prop where
 arcs : ∀ x ∈ m, x.length ≤ 20000
 rings : r.length ≤ 20000
 refs : r.flatten.length ≤ 20000
 wf : ∀ x ∈ r, ∀ n ∈ x, wf64 n
def ringAt (m : List (List Pt)) (r : List (List Int)) (k : Int) : List Pt × Int := if k < 0 ∨ k ≥ r.length then ([], 2) else Gr.ptsV m [] (r.getD k.toNat [])
def signV (l : List Pt) : Int := cmp3 (off (areaV l)) (off 0)
def fillsL (m : List (List Pt)) (r : List (List Int)) : List Pt → Bool → List Int → Bool
 | _, _, [] => true
 | O, first, k :: t =>
  if (ringAt m r k).2 ≠ 0 then false
  else if first = true then (if signV (ringAt m r k).1 ≤ 0 then false else fillsL m r (ringAt m r k).1 false t)
  else if signV (ringAt m r k).1 ≥ 0 then false
  else if (ringAt m r k).1.any (fun p => decide (inV p O < 0)) = true then false else fillsL m r O false t
def fillsV (m : List (List Pt)) (r : List (List Int)) (poly : List Int) : Bool := decide (0 < poly.length) && fillsL m r [] true poly
theorem flat_mem_len (r : List (List Int)) (x : List Int) (h : x ∈ r) : x.length ≤ r.flatten.length := by
 induction r with
 | nil => simp at h
 | cons y r ih =>
  rw [List.flatten_cons, List.length_append]
  rcases List.mem_cons.1 h with rfl | h
  ·omega
  ·have := ih h; omega
theorem row_small {m : List (List Pt)} {r : List (List Int)} (hs : Small m r) (i : Nat) (hi : i < r.length) : r[i].length ≤ 20000 ∧ r[i].length * 20000 < 5864062014805 ∧ ∀ n ∈ r[i], -9223372036854775808 ≤ n ∧ n ≤ 9223372036854775807 := by
 have h1 := flat_mem_len r r[i] (List.getElem_mem hi)
 have h2 := hs.refs
 exact ⟨by omega, by omega, fun n hn => hs.wf _ (List.getElem_mem hi) n hn⟩
theorem ringAt_ev {m : List (List Pt)} {r : List (List Int)} (hs : Small m r) (p : List (List Int)) (k : Int) : Ev (fun f => ring_Ring.f f m r p k) (ringAt m r k) := by
 have hrl := hs.rings
 unfold ringAt
 by_cases h0 : k < 0
 ·rw [if_pos (.inl h0)]
  unfold ring_Ring.f
  simp only [if_pos h0]
  exact Ev.now _
 ·by_cases h1 : k ≥ r.length
  ·rw [if_pos (.inr h1)]
   unfold ring_Ring.f
   simp only [if_neg h0, if_pos h1]
   exact Ev.now _
  ·rw [if_neg (by omega)]
   obtain ⟨i, rfl⟩ := Int.eq_ofNat_of_zero_le (show 0 ≤ k by omega)
   have hi : i < r.length := by omega
   obtain ⟨b1, b2, b3⟩ := row_small hs i hi
   have := Gr.ring_ev m r p 20000 (by decide) hs.arcs i hi (by omega) b3 b2
   rw [Int.toNat_natCast, show r.getD i [] = r[i] by simp [List.getD, List.getElem?_eq_getElem hi]]
   exact this
theorem ringAt_len {m : List (List Pt)} {r : List (List Int)} (hs : Small m r) (k : Int) : (ringAt m r k).1.length < 5864062014805 := by
 unfold ringAt
 split
 ·show 0 < 5864062014805; omega
 ·rename_i h
  obtain ⟨i, rfl⟩ := Int.eq_ofNat_of_zero_le (show 0 ≤ k by omega)
  have hi : i < r.length := by omega
  obtain ⟨b1, b2, b3⟩ := row_small hs i hi
  rw [Int.toNat_natCast, show r.getD i [] = r[i] by simp [List.getD, List.getElem?_eq_getElem hi]]
  exact Gr.ptsV_len m 20000 hs.arcs r[i] b2
set_option maxHeartbeats 8000000 in
set_option maxRecDepth 100000 in
theorem inside_calls (B : Nat) (Ao : Option Addr) (co : Nat) (O : List Pt) (W : World) (x : Pt) (hc : W.cell? ⟨B, 0, none⟩ = some (.slice Ao O.length co)) (hC : Kd.C k27 W Ao O.length O) (hle : O.length ≤ co) (hO : O.length < 5864062014805) :
  Calls Try.prog 67 #[.agg #[.int .i64 x.f0, .int .i64 x.f1, .int .i64 x.f2], .pointer (some ⟨B, 0, none⟩)] W fun e w' => e = .returned (.bool (decide (inV x O < 0))) ∧ Below W.heap.size W w' := by
 have hu27 := Try.underlying27
 obtain ⟨K, hK⟩ := gIn_ev x O (by omega)
 have hba : Below W.heap.size W (W.alloc (.cells #[.int .i64 x.f0, .int .i64 x.f1, .int .i64 x.f2] 27)) := (Below.refl _ W).alloc (Nat.le_refl _) _
 have hin := geom_In.calls K x.f0 x.f1 x.f2 Ao co O (inV x O) _ (Kd.C_below hC hba) hle (hK K (Nat.le_refl _))
 have hlt := World.block_lt_of_cell? W _ hc
 have hne : W.heap.size ≠ B := by
  have : B < W.heap.size := hlt
  omega
 have hne2 : B ≠ W.heap.size := by omega
 clear hK hC
 generalize inV x O = z at *
 go_enter Try.func67, Try.ntmps67
 go_wp2_with (first | (go_at_call 34; refine hin.mono ?_; rintro e w2 ⟨rfl, hb2⟩) | go_step3)
 go_ret
 exact ⟨rfl, below_step hba hb2⟩
set_option maxHeartbeats 8000000 in
set_option maxRecDepth 100000 in
theorem fills_calls (A0 A1 A2 Ap : Option Addr) (c0 c1 c2 cp : Nat) (m : List (List Pt)) (r p : List (List Int)) (poly : List Int) (w : World) (hr0 : Kd.C (Kd.slice 27 k27) w A0 m.length m) (hc0 : m.length ≤ c0) (hr1 : Kd.C (Kd.slice 3 (Kd.int .i64)) w A1 r.length r) (hc1 : r.length ≤ c1) (hr2 : Kd.C (Kd.slice 3 (Kd.int .i64)) w A2 p.length p) (hc2 : p.length ≤ c2)
  (hrp : Kd.C (Kd.int .i64) w Ap poly.length poly) (hcp : poly.length ≤ cp) (hs : Small m r) (hpl : poly.length ≤ 20000) :
  Calls Try.prog 44 #[.agg #[.slice A0 m.length c0, .slice A1 r.length c1, .slice A2 p.length c2], .slice Ap poly.length cp] w fun e w' => e = .returned (.bool (fillsV m r poly)) ∧ Below w.heap.size w w' := by
 have hu25 := Try.underlying25
 have hu27 := Try.underlying27
 have hring : ∀ (k : Int) (W : World), Below w.heap.size w W → Calls Try.prog 33 #[.agg #[.slice A0 m.length c0, .slice A1 r.length c1, .slice A2 p.length c2], .int .i64 k] W fun e w' => ∃ v0_ : Value, e = .returned (.tuple #[v0_, .int .i64 (ringAt m r k).2]) ∧ Kd.R k27 27 w' W.heap.size (fun _ => True) v0_ (ringAt m r k).1 ∧ Below W.heap.size W w' := by
  intro k W hW
  obtain ⟨K, hK⟩ := ringAt_ev hs p k
  exact ring_Ring.calls K A0 c0 m A1 c1 r A2 c2 p k _ _ W (Kd.C_below hr0 hW) hc0 (Kd.C_below hr1 hW) hc1 (Kd.C_below hr2 hW) hc2 (hK K (Nat.le_refl _))
 have hrl := ringAt_len hs
 have hfv : fillsV m r poly = (decide (0 < poly.length) && fillsL m r [] true poly) := rfl
 have hLstep : ∀ (O : List Pt) (b : Bool) (k : Int) (t : List Int), fillsL m r O b (k :: t) = if (ringAt m r k).2 ≠ 0 then false else if b = true then (if signV (ringAt m r k).1 ≤ 0 then false else fillsL m r (ringAt m r k).1 false t) else if signV (ringAt m r k).1 ≥ 0 then false else if (ringAt m r k).1.any (fun x => decide (inV x O < 0)) = true then false else fillsL m r O false t := fun _ _ _ _ => rfl
 generalize fillsV m r poly = R at *
 generalize hL0 : fillsL m r [] true poly = R0 at *
 have HL0 := Aside0.mk hL0
 have HFV := Aside0.mk hfv
 have HST := Aside0.mk hLstep
 have HRING := Aside0.mk hring
 have HRL := Aside0.mk hrl
 clear hL0 hfv hLstep hring hrl hr0 hr1 hr2
 go_enter Try.func44, Try.ntmps44
 go_upto_block 0 with (go_step3)
 obtain ⟨W1, hW1⟩ : ∃ W1 : World, W1 = (w.alloc (.cells #[.slice A0 m.length c0, .slice A1 r.length c1, .slice A2 p.length c2] 25)).alloc (.cells #[.slice none 0 0] 31) := ⟨_, rfl⟩
 have hsz1 : (w.alloc (.cells #[.slice A0 m.length c0, .slice A1 r.length c1, .slice A2 p.length c2] 25)).heap.size = w.heap.size + 1 := by simp
 have hB1 : Below w.heap.size w W1 := by rw [hW1]; exact ((Below.refl _ w).alloc (Nat.le_refl _) _).alloc (by rw [hsz1]; omega) _
 have hg0 : W1.heap[w.heap.size]? = some (.cells #[.slice A0 m.length c0, .slice A1 r.length c1, .slice A2 p.length c2] 25 (0, 0)) := by
  rw [hW1]; exact (heap_alloc_old _ _ (by rw [hsz1]; omega)).trans (heap_alloc_new _ _)
 have hgo : W1.heap[w.heap.size + 1]? = some (.cells #[.slice none 0 0] 31 (0, 0)) := by
  rw [hW1, ← hsz1]; exact heap_alloc_new _ _
 rw [← hW1]
 clear hW1 hsz1
 go_wp2_with (go_step3)
 go_loopw [14] (fun v wr => ∃ (i : Nat) (O : List Pt) (Ao : Option Addr) (co : Nat), i ≤ poly.length ∧ v = .int .i64 i ∧ wr.heap[w.heap.size]? = some (.cells #[.slice A0 m.length c0, .slice A1 r.length c1, .slice A2 p.length c2] 25 (0, 0)) ∧ wr.heap[w.heap.size + 1]? = some (.cells #[.slice Ao O.length co] 31 (0, 0)) ∧ Kd.C k27 wr Ao O.length O ∧ O.length ≤ co ∧ O.length < 5864062014805 ∧ Aside0 (R0 = fillsL m r O (decide (i = 0)) (poly.drop i)) ∧ Below w.heap.size w wr) (fun v _ => poly.length - (intV v).toNat)
 case atStart => exact ⟨0, [], none, 0, by omega, rfl, hg0, hgo, Kd.C_nil _ _, Nat.le_refl _, by show 0 < 5864062014805; omega, ⟨HL0.out.symm⟩, hB1⟩
 case round =>
  clear hg0 hgo hB1
  obtain ⟨i, O, Ao, co, hi, rfl, hg0, hgo, hCO, hle, hOl, HR, hB⟩ := hrel
  rcases Nat.lt_or_ge i poly.length with hlt | hge
  ·have hii : (i : Int) < (poly.length : Int) := by omega
   have hib : decide ((i : Int) < (poly.length : Int)) = true := decide_eq_true hii
   obtain ⟨ad, eA, y0⟩ := Kd.at_int (Kd.C_below hrp hB) (i : Int) (by omega) hii
   subst eA
   rw [show rd poly (i : Int) = poly[i] by simp [rd, List.getD, List.getElem?_eq_getElem hlt], Int.toNat_natCast] at y0
   have hRi := HR.out
   rw [List.drop_eq_getElem_cons hlt, HST.out] at hRi
   have HRI := Aside0.mk hRi
   clear hRi HR
   generalize poly[i] = k at *
   have hring := HRING.out k wr hB
   have hrl := HRL.out k
   have hx0 : wr.cell? ⟨w.heap.size, 0, none⟩ = some (.slice A0 m.length c0) := (blk_cell hg0 0).trans rfl
   have hx1 : wr.cell? ⟨w.heap.size, 1, none⟩ = some (.slice A1 r.length c1) := (blk_cell hg0 1).trans rfl
   have hx2 : wr.cell? ⟨w.heap.size, 2, none⟩ = some (.slice A2 p.length c2) := (blk_cell hg0 2).trans rfl
   generalize ringAt m r k = rg at *
   obtain ⟨l, e⟩ := rg
   simp only at hring hrl
   go_upto_region 6 with (first | (go_at_call 33; refine hring.mono ?_; rintro ee w2 ⟨v2, rfl, ho2, hb2⟩; obtain ⟨A2', c2', e2'⟩ := Kd.R_slice ho2; subst e2') | go_step3)
   clear hring hx0 hx1 hx2 y0
   have hr2 := Kd.R_reads' ho2
   have hB2 := below_step hB hb2
   by_cases he : e = 0
   ·subst he
    obtain ⟨K1, hK1⟩ := gArea_val l (by omega)
    have harea := geom_Area.calls K1 A2' c2' l (hiw (areaV l)) (low (areaV l)) w2 hr2.2.2 hr2.2.1 (hK1 K1 (Nat.le_refl _))
    have hsign := fun W => wide_Sign.calls (hiw (areaV l)) (low (areaV l)) (cmp3 (off (areaV l)) (off 0)) W (wSign_eq (areaV l))
    have hsv : cmp3 (off (areaV l)) (off 0) = signV l := rfl
    rw [hsv] at hsign
    clear hK1 hsv
    generalize hiw (areaV l) = ah at *
    generalize low (areaV l) = al at *
    generalize hsg : signV l = sg at *
    have HSG := Aside0.mk hsg
    clear hsg
    go_upto_region 9 with (first | (go_at_call 46; refine harea.mono ?_; rintro ee w3 ⟨rfl, hb3⟩) | (go_at_call 24; refine (hsign _).mono ?_; rintro ee w4 ⟨rfl, hb4⟩) | go_step3)
    clear harea hsign
    have hb34 := below_step hb3 hb4
    have hb24 := below_step hb2 hb34
    have hgo4 := blk_below hgo hb24
    have hg04 := blk_below hg0 hb24
    have hB4 := below_step hB hb24
    have hr4 := Kd.C_below hr2.2.2 hb34
    have hCO4 := Kd.C_below hCO hb24
    have hcell : w4.cell? ⟨w.heap.size + 1, 0, none⟩ = some (.slice Ao O.length co) := (blk_cell hgo4 0).trans rfl
    have hfz := blk_frozen hgo4 0
    have hgl := blk_lt hgo
    have hRl := Kd.R_below (Kd.R_bound ho2) hb34
    have hl' : True ∨ True := .inr trivial
    clear hgo hg0 hCO hb24 hb34 hb3 hb4 hb2 hB2 hl'
    by_cases h0 : i = 0
    ·have hi0 : ((i : Int) == 0) = true := beq_iff_eq.mpr (by omega)
     have hR1 : R0 = if sg ≤ 0 then false else fillsL m r l false (poly.drop (i + 1)) := by rw [HRI.out, if_neg (by simp), if_pos (decide_eq_true h0)]
     have HR1 := Aside0.mk hR1
     clear hR1
     by_cases hs0 : sg ≤ 0
     ·have hRf : R = false := by rw [HFV.out, HR1.out, if_pos hs0, Bool.and_false]
      have HRF := Aside0.mk hRf
      clear hRf
      go_wp2_with (go_step3)
      go_ret
      exact ⟨by rw [HRF.out]; rfl, below_set hB4 (Nat.le_succ _)⟩
     ·have HR2 := Aside0.mk (show R0 = fillsL m r l (decide (i + 1 = 0)) (poly.drop (i + 1)) by rw [HR1.out, if_neg hs0, decide_eq_false (by omega)])
      go_wp2_with (go_step3)
      go_roundw
      case rel => exact ⟨i + 1, l, A2', c2', by omega, by subst h0; rfl, blk_far hg04 (show w.heap.size ≠ w.heap.size + 1 by omega) _, blk_set hgo4 0 _, (Kd.R_reads' (Kd.R_far (p := ⟨w.heap.size + 1, 0, none⟩) hRl (fun k hk => by have := hk.2.1; show k ≠ w.heap.size + 1; omega) _)).2.2, hr2.2.1, hrl, HR2, below_set hB4 (Nat.le_succ _)⟩
      case measure => simp [intV]; omega
    ·have hi0 : ((i : Int) == 0) = false := beq_eq_false_iff_ne.mpr (by omega)
     have hR1 : R0 = if sg ≥ 0 then false else if l.any (fun x => decide (inV x O < 0)) = true then false else fillsL m r O false (poly.drop (i + 1)) := by rw [HRI.out, if_neg (by simp), if_neg (by simp [h0])]
     have HR1 := Aside0.mk hR1
     clear hR1
     by_cases hs0 : sg ≥ 0
     ·have hRf : R = false := by rw [HFV.out, HR1.out, if_pos hs0, Bool.and_false]
      have HRF := Aside0.mk hRf
      clear hRf
      go_wp2_with (go_step3)
      go_ret
      exact ⟨by rw [HRF.out]; rfl, hB4⟩
     ·have hcon := containsP 67 #[.pointer (some ⟨w.heap.size + 1, 0, none⟩)] (fun x => decide (inV x O < 0)) A2' c2' l w4 (enters_of Try.func67 (by kernel_rfl) rfl) hr4 (by have := HRL.out k; omega) (fun W x _ hW => inside_calls (w.heap.size + 1) Ao co O W x (pw_cell_below hW hcell) (Kd.C_below hCO4 hW) hle hOl)
      generalize hany : l.any (fun x => decide (inV x O < 0)) = b at *
      have HANY := Aside0.mk hany
      clear hany
      cases b with
      | true =>
       have hRf : R = false := by rw [HFV.out, HR1.out, if_neg hs0, if_pos rfl, Bool.and_false]
       have HRF := Aside0.mk hRf
       clear hRf
       go_wp2_with (first | (go_at_call 68; refine hcon.mono ?_; rintro ee w5 ⟨rfl, hb5⟩) | go_step3)
       go_ret
       exact ⟨by rw [HRF.out]; rfl, below_step hB4 hb5⟩
      | false =>
       have HR2 := Aside0.mk (show R0 = fillsL m r O (decide (i + 1 = 0)) (poly.drop (i + 1)) by rw [HR1.out, if_neg hs0, if_neg (by simp), decide_eq_false (by omega)])
       go_wp2_with (first | (go_at_call 68; refine hcon.mono ?_; rintro ee w5 ⟨rfl, hb5⟩) | go_step3)
       go_roundw
       case rel => exact ⟨i + 1, O, Ao, co, by omega, rfl, blk_below hg04 hb5, blk_below hgo4 hb5, Kd.C_below hCO4 hb5, hle, hOl, HR2, below_step hB4 hb5⟩
       case measure => simp [intV]; omega
   ·have heb : (e != 0) = true := bne_iff_ne.mpr he
    have hRf : R0 = false := by rw [HRI.out, if_pos he]
    have HRF := Aside0.mk (show R = false by rw [HFV.out, hRf, Bool.and_false])
    clear hRf he
    go_wp2_with (go_step3)
    go_ret
    exact ⟨by rw [HRF.out]; rfl, hB2⟩
  ·have hii : ¬ (i : Int) < (poly.length : Int) := by omega
   have hib : decide ((i : Int) < (poly.length : Int)) = false := decide_eq_false hii
   have hR0 : R = decide (0 < poly.length) := by rw [HFV.out, HR.out, List.drop_of_length_le hge]; exact Bool.and_true _
   have HR0 := Aside0.mk hR0
   clear hR0 HR
   go_wp2_with (go_step3)
   go_ret
   exact ⟨by rw [HR0.out]; simp, hB⟩
end Go.Proofs.Ytbonkedecfjmdaa.Pl

namespace Go.Proofs.Ytbonkedecfjmdaa.P
open Go.RowKit Go.Proofs.YtbonkedecfjmdaaW.PrintWords Go.Proofs.YtbonkedecfjmdaaW.PrintLast Go.Proofs.YtbonkedecfjmdaaW.PrintMore Go.Proofs.Ytbonkedecfjmdaa.X
attribute [local go_sem] max2_int min2_int max_two min_two max_three min_three max_four min_four add64_0 add64_1 add64
set_option linter.unusedVariables false
set_option linter.unusedSimpArgs false
def slices_Concat_int_int.f (l0 : List (List Int)) : Option (List Int) := if l0.length ≤ 17592186044416 ∧ l0.flatten.length < 17592186044416 then (some l0.flatten) else (none)
set_option maxHeartbeats 8000000 in
set_option maxRecDepth 100000 in
theorem slices_Concat_int_int.calls (A0 : Option Addr) (c0 : Nat) (l0 : List (List Int)) (r : List Int) (w : World) (hr0 : Kd.C (Kd.slice 3 (Kd.int .i64)) w A0 l0.length l0) (hc0 : l0.length ≤ c0) (h : slices_Concat_int_int.f l0 = some r) :
  Calls Try.prog 39 #[.slice A0 l0.length c0] w fun e w' => ∃ v0_ : Value, e = .returned (v0_) ∧ Kd.R (Kd.int .i64) 3 w' w.heap.size (fun _ => True) v0_ r ∧ Below w.heap.size w w' := by
 unfold slices_Concat_int_int.f at h
 by_cases hl : l0.length ≤ 17592186044416 ∧ l0.flatten.length < 17592186044416
 ·rw [if_pos hl] at h
  obtain rfl := Option.some.inj h
  exact Pl.concat_calls A0 c0 l0 w hr0 hl.1 hl.2
 ·rw [if_neg hl] at h; cases h
end Go.Proofs.Ytbonkedecfjmdaa.P

namespace Go.Proofs.Ytbonkedecfjmdaa.Pl
set_option linter.unusedVariables false
set_option linter.unusedSimpArgs false
open Go Go.RowKit Go.Proofs.Ytbonkedecfjmdaa.P Go.Proofs.Ytbonkedecfjmdaa.G Go.Proofs.Ytbonkedecfjmdaa.WL Go.Proofs.YtbonkedecfjmdaaW.PrintWords Go.Proofs.YtbonkedecfjmdaaW.PrintLast Go.Proofs.YtbonkedecfjmdaaW.PrintMore
def inR (r : List (List Int)) (k : Int) : Bool := decide (0 ≤ k ∧ k < r.length)
def FillsV (m : List (List Pt)) (r p : List (List Int)) : Bool := p.flatten.all (inR r) && ((List.range' 0 r.length).all (fun k : Nat => decide (p.flatten.count (k : Int) = 1)) && p.all (fillsV m r))
def cntL (n : Nat) (l : List Int) : List Int := (List.range' 0 n).map fun k : Nat => ((l.count (k : Int) : Nat) : Int)
theorem cntL_len (n : Nat) (l : List Int) : (cntL n l).length = n := by simp [cntL]
theorem cntL_get (n : Nat) (l : List Int) (i : Nat) (h : i < n) : (cntL n l)[i]'(by rw [cntL_len]; exact h) = (l.count (i : Int) : Int) := by simp [cntL]
theorem cntL_nil (n : Nat) : cntL n [] = List.replicate n 0 := by
 apply List.ext_getElem
 ·simp [cntL]
 ·intro i h1 h2; simp [cntL]
theorem cntL_snoc (n : Nat) (l : List Int) (k : Nat) (h : k < n) : cntL n (l ++ [(k : Int)]) = (cntL n l).set k ((l.count (k : Int) : Int) + 1) := by
 apply List.ext_getElem
 ·simp [cntL]
 ·intro i h1 h2
  rw [cntL_len] at h1
  rw [cntL_get n _ i h1, List.getElem_set, List.count_append]
  by_cases e : k = i
  ·subst e
   rw [if_pos rfl]
   simp
  ·rw [if_neg e, cntL_get n _ i h1]
   have : ¬ ((k : Int) = (i : Int)) := by omega
   simp [List.count_cons, this]
def blkI (l : List Int) : Array Value := (l.map (Value.int .i64)).toArray
theorem blkI_set (l : List Int) (i : Nat) (x : Int) : (blkI l).setIfInBounds i (.int .i64 x) = blkI (l.set i x) := by simp [blkI, List.map_set]
theorem C_ints (w : World) (g : Nat) (xs : List Int) (t : TypeId) (fr : Nat × Nat) (hg : w.heap[g]? = some (.cells (blkI xs) t fr)) (hl : xs.length ≤ 9223372036854775807) : Kd.C (Kd.int .i64) w (some ⟨g, 0, none⟩) xs.length xs := by
 refine ⟨rfl, hl, fun _ => ⟨⟨g, 0, none⟩, rfl, fun j p hp => ⟨[.int .i64 p], rfl, rfl, fun i u hu => ?_⟩⟩⟩
 have hi : i = 0 := by
  cases i with
  | zero => rfl
  | succ i => simp at hu
 subst hi
 have hu' : Value.int .i64 p = u := by simpa using hu
 subst hu'
 have e : (Addr.add ⟨g, 0, none⟩ (j * (Kd.int IntKind.i64).sz + 0)) = ⟨g, j, none⟩ := by
  have : (Kd.int IntKind.i64).sz = 1 := rfl
  rw [this, Addr.add_mid]; simp
 rw [e, cell_of_row w g j _ t fr hg]
 simp [blkI, hp]
theorem room_ints {ops : Array Oper} {rest : List Oper} {o : Oper} {a : Act} {Q : Exit → Act → World → Prop} {W : World} (hgd : o.guard = none) {N' : Tmp} (hd : o.dst = some N') (x y : Operand) (ho : o.op = .makeSlice 32 x y) (n : Nat) (hx : a.eval x = .int .i64 (n : Int)) (hy : a.eval y = .int .i64 (n : Int)) (hn : n ≤ 1000000)
  (h : ∀ w1, w1.heap[W.heap.size]? = some (.cells (blkI (List.replicate n 0)) 3 (0, 0)) → Below W.heap.size W w1 → wpList Try.prog ops Q rest (a.put o.dst (.slice (some ⟨W.heap.size, 0, none⟩) n n)) w1) : wpList Try.prog ops Q (o :: rest) a W := by
 obtain ⟨i0, hi, hzz⟩ := Option.map_eq_some_iff.1 inf3
 simp only [Prod.mk.injEq] at hzz
 obtain ⟨hz0, hz1, hz2⟩ := hzz
 have hr := run_make (P := Try.prog) W 32 3 i0 _ Try.underlying32 hi hz0 .i64 .i64 (n : Int) (n : Int) (by omega) (by omega) (by rw [hz2]; omega) (by omega)
 rw [Int.toNat_natCast, hz1, Nat.mul_one] at hr
 refine Kd.event_run (v := .slice (some ⟨W.heap.size, 0, none⟩) n n) (w1 := W.alloc (.cells (madeCells (Value.cells (.int .i64 0)) n) 3)) hgd (by simp [execOp, ho, hx, hy, hr]) (h _ ?_ ((Below.refl _ W).alloc (Nat.le_refl _) _))
 have e : madeCells (Value.cells (.int .i64 0)) n = blkI (List.replicate n 0) := by
  apply Array.ext'
  show (madeCells #[Value.int .i64 0] n).toList = _
  rw [toList_madeCells_one]
  simp [blkI]
 rw [e]
 exact heap_alloc_new _ _
theorem cnt_any (n : Nat) (l : List Int) : (cntL n l).any (fun x => x != 1) = !((List.range' 0 n).all (fun k : Nat => decide (l.count (k : Int) = 1))) := by
 unfold cntL
 rw [List.any_map, List.not_all_eq_any_not]
 congr 1
 funext k
 show ((l.count (k : Int) : Int) != 1) = !decide (l.count (k : Int) = 1)
 by_cases h : l.count (k : Int) = 1
 ·rw [h]; rfl
 ·have : ¬ ((l.count (k : Int) : Int) = 1) := by omega
  simp [h, this]
set_option maxHeartbeats 8000000 in
set_option maxRecDepth 100000 in
theorem one_calls (W : World) (x : Int) : Calls Try.prog 41 #[.int .i64 x] W fun e w' => e = .returned (.bool (x != 1)) ∧ Below W.heap.size W w' := by
 go_enter Try.func41, Try.ntmps41
 go_wp2_with (go_step3)
 go_ret
 exact ⟨rfl, Below.refl _ _⟩
set_option maxHeartbeats 8000000 in
set_option maxRecDepth 100000 in
theorem notfills_calls (A0 A1 A2 Ap : Option Addr) (c0 c1 c2 cp : Nat) (m : List (List Pt)) (r p : List (List Int)) (poly : List Int) (w W : World) (g : Nat) (hW : Below w.heap.size w W) (hg : w.heap[g]? = some (.cells #[.slice A0 m.length c0, .slice A1 r.length c1, .slice A2 p.length c2] 25 (0, 0))) (hr0 : Kd.C (Kd.slice 27 k27) w A0 m.length m) (hc0 : m.length ≤ c0) (hr1 : Kd.C (Kd.slice 3 (Kd.int .i64)) w A1 r.length r) (hc1 : r.length ≤ c1) (hr2 : Kd.C (Kd.slice 3 (Kd.int .i64)) w A2 p.length p) (hc2 : p.length ≤ c2)
  (hrp : Kd.C (Kd.int .i64) W Ap poly.length poly) (hcp : poly.length ≤ cp) (hs : Small m r) (hpl : poly.length ≤ 20000) :
  Calls Try.prog 43 #[.slice Ap poly.length cp, .pointer (some ⟨g, 0, none⟩)] W fun e w' => e = .returned (.bool (!fillsV m r poly)) ∧ Below W.heap.size W w' := by
 have hu25 := Try.underlying25
 have hgW := blk_below hg hW
 have hf := fills_calls A0 A1 A2 Ap c0 c1 c2 cp m r p poly W (Kd.C_below hr0 hW) hc0 (Kd.C_below hr1 hW) hc1 (Kd.C_below hr2 hW) hc2 hrp hcp hs hpl
 have x0 : W.cell? ⟨g, 0, none⟩ = some (.slice A0 m.length c0) := (blk_cell hgW 0).trans rfl
 have x1 : W.cell? ⟨g, 1, none⟩ = some (.slice A1 r.length c1) := (blk_cell hgW 1).trans rfl
 have x2 : W.cell? ⟨g, 2, none⟩ = some (.slice A2 p.length c2) := (blk_cell hgW 2).trans rfl
 clear hr0 hr1 hr2 hrp hg hgW hW
 generalize fillsV m r poly = b at *
 go_enter Try.func43, Try.ntmps43
 go_wp2_with (first | (go_at_call 44; refine hf.mono ?_; rintro e w2 ⟨rfl, hb2⟩) | go_step3)
 go_ret
 exact ⟨rfl, hb2⟩
set_option maxHeartbeats 8000000 in
set_option maxRecDepth 100000 in
theorem Fills_calls (A0 A1 A2 : Option Addr) (c0 c1 c2 : Nat) (m : List (List Pt)) (r p : List (List Int)) (w : World) (hr0 : Kd.C (Kd.slice 27 k27) w A0 m.length m) (hc0 : m.length ≤ c0) (hr1 : Kd.C (Kd.slice 3 (Kd.int .i64)) w A1 r.length r) (hc1 : r.length ≤ c1) (hr2 : Kd.C (Kd.slice 3 (Kd.int .i64)) w A2 p.length p) (hc2 : p.length ≤ c2)
  (hs : Small m r) (hp : p.length ≤ 20000) (hpf : p.flatten.length ≤ 20000) :
  Calls Try.prog 15 #[.agg #[.slice A0 m.length c0, .slice A1 r.length c1, .slice A2 p.length c2]] w fun e w' => e = .returned (.bool (FillsV m r p)) ∧ Below w.heap.size w w' := by
 have hu25 := Try.underlying25
 have hrl := hs.rings
 have hFV : FillsV m r p = (p.flatten.all (inR r) && ((List.range' 0 r.length).all (fun k : Nat => decide (p.flatten.count (k : Int) = 1)) && p.all (fillsV m r))) := rfl
 have hconcat := fun W (h : Below w.heap.size w W) => concat_calls A2 c2 p W (Kd.C_below hr2 h) (by omega) (by omega)
 generalize FillsV m r p = R at *
 have hpx : ∀ x ∈ p, x.length ≤ 20000 := fun x hx => Nat.le_trans (flat_mem_len p x hx) hpf
 generalize p.flatten = L at *
 have HFV := Aside0.mk hFV
 clear hFV
 go_enter Try.func15, Try.ntmps15
 have hba : Below w.heap.size w (w.alloc (.cells #[.slice A0 m.length c0, .slice A1 r.length c1, .slice A2 p.length c2] 25)) := (Below.refl _ w).alloc (Nat.le_refl _) _
 have hga := heap_alloc_new w (.cells #[.slice A0 m.length c0, .slice A1 r.length c1, .slice A2 p.length c2] 25)
 go_upto_region 1 with (go_step3)
 generalize w.alloc (.cells #[.slice A0 m.length c0, .slice A1 r.length c1, .slice A2 p.length c2] 25) = W0 at hba hga ⊢
 have x1 : W0.cell? ⟨w.heap.size, 1, none⟩ = some (.slice A1 r.length c1) := (blk_cell hga 1).trans rfl
 go_upto_region 2 with (first | ((with_reducible refine gate_dst (N := 9) rfl ?_); refine room_ints ?hg (N' := 9) ?hd (.tmp 8) (.tmp 8) ?ho r.length ?hx ?hy (by omega) ?_; (case hd => rfl); (case hg => rfl); (case ho => rfl); (case hx => rfl); (case hy => rfl); intro w1 hu hb1) | go_step3)
 have hg1 := blk_below hga hb1
 have hB1 := below_step hba hb1
 have x2 : w1.cell? ⟨w.heap.size, 2, none⟩ = some (.slice A2 p.length c2) := (blk_cell hg1 2).trans rfl
 have hcc := hconcat w1 hB1
 have hgu1 : W0.heap.size < w1.heap.size := blk_lt hu
 have hW0 := hba.size
 clear x1 hga hba
 go_upto_block 0 with (first | (go_at_call 39; refine hcc.mono ?_; rintro e w2 ⟨v2, rfl, ho2, hb2⟩; obtain ⟨A3, c3, e3⟩ := Kd.R_slice ho2; subst e3) | go_step3)
 clear x2 hcc hconcat
 have hRL := Kd.R_mono (ok' := fun k => w1.heap.size ≤ k) (Kd.R_bound ho2) (fun k hk => hk.2.1)
 have hu2 := blk_below hu hb2
 have hg2 := blk_below hg1 hb2
 have hB2 := below_step hB1 hb2
 have hg0u : w.heap.size ≠ W0.heap.size := by
  intro e
  rw [← e] at hu
  rw [hg1] at hu
  simp at hu
 have hwg : w.heap.size ≤ W0.heap.size := hW0
 clear ho2 hu hg1 hB1 hb1 hb2
 go_wp2_with (go_step3)
 go_loopw [14] (fun v wr => ∃ i : Nat, i ≤ L.length ∧ v = .int .i64 i ∧ wr.heap[W0.heap.size]? = some (.cells (blkI (cntL r.length (L.take i))) 3 (0, 0)) ∧ wr.heap[w.heap.size]? = some (.cells #[.slice A0 m.length c0, .slice A1 r.length c1, .slice A2 p.length c2] 25 (0, 0)) ∧ Kd.R (Kd.int .i64) 3 wr w1.heap.size (fun k => w1.heap.size ≤ k) (.slice A3 L.length c3) L ∧ Aside0 ((L.take i).all (inR r) = true) ∧ Below w.heap.size w wr) (fun v _ => L.length - (intV v).toNat)
 case atStart => exact ⟨0, by omega, rfl, by rw [List.take_zero, cntL_nil]; exact hu2, hg2, hRL, ⟨rfl⟩, hB2⟩
 case round =>
  clear hu2 hg2 hRL hB2
  obtain ⟨i, hi, rfl, hu, hg, hRL, HA, hB⟩ := hrel
  rcases Nat.lt_or_ge i L.length with hlt | hge
  ·have hii : (i : Int) < (L.length : Int) := by omega
   have hib : decide ((i : Int) < (L.length : Int)) = true := decide_eq_true hii
   obtain ⟨ad, eA, y0⟩ := Kd.at_int (Kd.R_reads' hRL).2.2 (i : Int) (by omega) hii
   subst eA
   rw [show rd L (i : Int) = L[i] by simp [rd, List.getD, List.getElem?_eq_getElem hlt], Int.toNat_natCast] at y0
   have htk : L.take (i + 1) = L.take i ++ [L[i]] := by rw [List.take_add_one, List.getElem?_eq_getElem hlt]; rfl
   have hno : inR r L[i] = false → R = false := fun h => by
    rw [HFV.out]
    have : L.all (inR r) = false := by
     rw [Bool.eq_false_iff]
     intro h2
     have := List.all_eq_true.1 h2 _ (List.getElem_mem hlt)
     rw [h] at this
     cases this
    rw [this, Bool.false_and]
   have hcl : (L.take i).count L[i] ≤ 20000 := Nat.le_trans List.count_le_length (by rw [List.length_take]; omega)
   have HTK := Aside0.mk htk
   have HNO := Aside0.mk hno
   clear htk hno
   generalize hk : L[i] = k at *
   clear hk
   by_cases h0 : k < 0
   ·have hRf := HNO.out (decide_eq_false (by omega))
    have HRF := Aside0.mk hRf
    clear hRf
    go_wp2_with (go_step3)
    go_ret
    exact ⟨by rw [HRF.out]; rfl, hB⟩
   ·by_cases h1 : k ≥ (r.length : Int)
    ·have hRf := HNO.out (decide_eq_false (by omega))
     have HRF := Aside0.mk hRf
     clear hRf
     go_wp2_with (go_step3)
     go_ret
     exact ⟨by rw [HRF.out]; rfl, hB⟩
    ·obtain ⟨q, rfl⟩ := Int.eq_ofNat_of_zero_le (show 0 ≤ k by omega)
     have hq : q < r.length := by omega
     have hqi : (q : Int) < (r.length : Int) := by omega
     have hcu : wr.cell? ⟨W0.heap.size, q, none⟩ = some (.int .i64 (((L.take i).count (q : Int) : Nat) : Int)) := by
      rw [blk_cell hu q]
      unfold blkI
      have := cntL_get r.length (L.take i) q hq
      simp [this, cntL_len, hq]
      try rw [List.getElem?_eq_getElem (by rw [cntL_len]; exact hq), this]
      try rfl
     have hfz := blk_frozen hu q
     have HA2 := Aside0.mk (show (L.take (i + 1)).all (inR r) = true by rw [HTK.out, List.all_append, HA.out]; simp [inR, hq])
     have HCN := Aside0.mk (show cntL r.length (L.take (i + 1)) = (cntL r.length (L.take i)).set q ((((L.take i).count (q : Int) : Nat) : Int) + 1) by rw [HTK.out]; exact cntL_snoc r.length (L.take i) q hq)
     generalize (L.take i).count (q : Int) = cn at *
     clear h0 h1
     go_wp2_with (go_step3)
     go_roundw
     case rel =>
      refine ⟨i + 1, by omega, rfl, ?_, blk_far hg hg0u _, Kd.R_far (p := ⟨W0.heap.size, q, none⟩) hRL (fun k hk => by show k ≠ W0.heap.size; omega) _, HA2, below_set hB hwg⟩
      rw [HCN.out, ← blkI_set]
      exact blk_set hu q _
     case measure => simp [intV]; omega
  ·have hii : ¬ (i : Int) < (L.length : Int) := by omega
   have hib : decide ((i : Int) < (L.length : Int)) = false := decide_eq_false hii
   rw [List.take_of_length_le hge] at hu
   have hall : L.all (inR r) = true := by have := HA.out; rwa [List.take_of_length_le hge] at this
   have hCu := C_ints wr W0.heap.size (cntL r.length L) 3 (0, 0) hu (by rw [cntL_len]; omega)
   have hone := containsI 41 #[] (fun x => x != 1) (some ⟨W0.heap.size, 0, none⟩) r.length (cntL r.length L) wr (enters_of Try.func41 (by kernel_rfl) rfl) hCu (by rw [cntL_len]; omega) (fun W x _ hW => one_calls W x)
   rw [cnt_any, cntL_len] at hone
   have hR2 : R = ((List.range' 0 r.length).all (fun k : Nat => decide (L.count (k : Int) = 1)) && p.all (fillsV m r)) := by rw [HFV.out, hall, Bool.true_and]
   have HR2 := Aside0.mk hR2
   have hpol := fun W (h : Below wr.heap.size wr W) => containsR 43 #[.pointer (some ⟨w.heap.size, 0, none⟩)] (fun x => !fillsV m r x) A2 c2 p W (enters_of Try.func43 (by kernel_rfl) rfl) (Kd.C_below hr2 (below_step hB h)) (by omega) (fun W2 x A1' c1' hx hW2 hC2 hc2' => notfills_calls A0 A1 A2 A1' c0 c1 c2 c1' m r p x W W2 w.heap.size hW2 (blk_below hg h) (Kd.C_below hr0 (below_step hB h)) hc0 (Kd.C_below hr1 (below_step hB h)) hc1 (Kd.C_below hr2 (below_step hB h)) hc2 hC2 hc2' hs (hpx x hx))
   have hany : p.any (fun x => !fillsV m r x) = !p.all (fillsV m r) := by rw [List.not_all_eq_any_not]
   rw [hany] at hpol
   clear hall hR2 hany hCu hRL
   generalize (List.range' 0 r.length).all (fun k : Nat => decide (L.count (k : Int) = 1)) = b1 at *
   generalize p.all (fillsV m r) = b2 at *
   have hgw : ∀ W, Below wr.heap.size wr W → W.cell? ⟨w.heap.size, 2, none⟩ = some (.slice A2 p.length c2) := fun W h => (blk_cell (blk_below hg h) 2).trans rfl
   cases b1 with
   | false =>
    have HRF := Aside0.mk (show R = false by rw [HR2.out]; rfl)
    go_wp2_with (first | (go_at_call 40; refine hone.mono ?_; rintro ee w3 ⟨rfl, hb3⟩) | go_step3)
    go_ret
    exact ⟨by rw [HRF.out]; rfl, below_step hB hb3⟩
   | true =>
    have HRF := Aside0.mk (show R = b2 by rw [HR2.out]; rfl)
    go_wp2_with (first | (go_at_call 40; refine hone.mono ?_; rintro ee w3 ⟨rfl, hb3⟩; have x2 := hgw w3 hb3) | (go_at_call 42; refine (hpol _ hb3).mono ?_; rintro ee w4 ⟨rfl, hb4⟩) | go_step3)
    go_ret
    exact ⟨by rw [HRF.out]; simp, below_step (below_step hB hb3) hb4⟩
end Go.Proofs.Ytbonkedecfjmdaa.Pl
