/- plan.Meets: the walk. No condition. Whether all rings close: the values, and the walks of ring.Uses and plan.Closes. No condition. (printed by gen_kh.py) Written for this claim by a program of this session (a turned copy of the print): Go functions as Lean functions, and that the Go code comes to just these answers; or a statement proved out of them. No condition. -/
import Derived.Test.YtbonkedecfjmdaaZ18
import Derived.WalkMore
import Derived.Test.YtbonkedecfjmdaaZ17
import Derived.Test.YtbonkedecfjmdaaZ2

namespace Go.Proofs.Ytbonkedecfjmdaa.Pl
set_option linter.unusedVariables false
set_option linter.unusedSimpArgs false
open Go Go.RowKit Go.Proofs.Ytbonkedecfjmdaa.P Go.Proofs.Ytbonkedecfjmdaa.G Go.Proofs.YtbonkedecfjmdaaW.PrintWords Go.Proofs.YtbonkedecfjmdaaW.PrintLast Go.Proofs.YtbonkedecfjmdaaW.PrintMore

def badV : List Sd → Bool
  | [] => false
  | s :: t => t.any (fun x => !mayV s x) || badV t
def meetsV (m : List (List Pt)) : Bool := decide (arcsV m = 0) && badV (sidesV 0 m)
theorem rd_sd (L : List Sd) (i : Nat) (h : i < L.length) : rd_T109 L (i : Int) = L[i] := by simp [rd_T109, List.getD, List.getElem?_eq_getElem h]
theorem sd_small : ∀ (m : List (List Pt)) (k : Nat), (∀ a ∈ m, a.length ≤ 1048576) → ∀ s ∈ sidesV k m, 0 ≤ s.f3 ∧ s.f3 ≤ 100000000
  | [], _, _, s, h => by simp [sidesV] at h
  | a :: m, k, hx, s, h => by
    rcases List.mem_append.1 h with h | h
    · unfold sidesA at h
      obtain ⟨i, hi, rfl⟩ := List.mem_map.1 h
      have := hx a (List.mem_cons_self ..)
      rw [List.mem_range'] at hi
      obtain ⟨j, hj, rfl⟩ := hi
      unfold sideAt
      show (0 : Int) ≤ ((0 + 1 * j + 1 : Nat) : Int) ∧ ((0 + 1 * j + 1 : Nat) : Int) ≤ 100000000
      omega
    · exact sd_small m (k + 1) (fun b hb => hx b (List.mem_cons_of_mem _ hb)) s h
theorem sides_len : ∀ (m : List (List Pt)) (k : Nat), (sidesV k m).length ≤ (m.map List.length).sum
  | [], _ => by simp [sidesV]
  | a :: m, k => by
    have := sides_len m (k + 1)
    rw [sidesV, List.length_append, List.map_cons, List.sum_cons]
    unfold sidesA
    rw [List.length_map, List.length_range']
    omega
set_option maxHeartbeats 8000000 in
set_option maxRecDepth 100000 in
theorem meets_calls (A0 A1 A2 : Option Addr) (c0 c1 c2 : Nat) (m : List (List Pt)) (r p : List (List Int)) (w : World) (hr0 : Kd.C (Kd.slice 27 k27) w A0 m.length m) (hc0 : m.length ≤ c0) (hr1 : Kd.C (Kd.slice 3 (Kd.int .i64)) w A1 r.length r) (hc1 : r.length ≤ c1) (hr2 : Kd.C (Kd.slice 3 (Kd.int .i64)) w A2 p.length p) (hc2 : p.length ≤ c2)
    (hm : m.length ≤ 1048576) (hx : ∀ a ∈ m, a.length ≤ 1048576) :
    Calls Try.prog 57 #[.agg #[.slice A0 m.length c0, .slice A1 r.length c1, .slice A2 p.length c2]] w fun e w' => e = .returned (.bool (meetsV m)) ∧ Below w.heap.size w w' := by
  have hu25 := Try.underlying25
  have hu109 := Try.underlying109
  obtain ⟨K, hK⟩ := arcs_ev m hm hx
  have harc := fun W h => arc_Check.calls K A0 c0 m (arcsV m) W (Kd.C_below hr0 h) hc0 (hK K (Nat.le_refl _))
  clear hK
  obtain ⟨K2, hK2⟩ := sides_ev m r p hm hx
  have hsides := fun W (h : Below w.heap.size w W) => plan_sides.calls K2 A0 c0 m A1 c1 r A2 c2 p (sidesV 0 m) W (Kd.C_below hr0 h) hc0 (Kd.C_below hr1 h) hc1 (Kd.C_below hr2 h) hc2 (hK2 K2 (Nat.le_refl _))
  clear hK2
  have hsm := sd_small m 0 hx
  have hsl := sides_len m 0
  have hmv : meetsV m = (decide (arcsV m = 0) && badV (sidesV 0 m)) := rfl
  have hlong : arcsV m = 0 → (m.map List.length).sum ≤ 20000 := by
    intro h
    unfold arcsV at h
    split at h
    · simp at h
    · omega
  generalize sidesV 0 m = L at *
  generalize meetsV m = R at *
  by_cases he : arcsV m = 0
  · have hL := hlong he
    rw [decide_eq_true he, Bool.true_and] at hmv
    rw [he] at harc
    have HMV := Aside0.mk hmv
    clear hmv hlong he
    have hLn : L.length ≤ 20000 := by omega
    clear hsl hL
    go_enter Try.func57, Try.ntmps57
    go_upto_region 3 with (first | (go_at_call 56; refine (harc _ ((Below.refl _ w).alloc (Nat.le_refl _) _)).mono ?_; rintro e w2 ⟨rfl, hb2⟩) | go_step3)
    have hB1 : Below w.heap.size w (w.alloc (.cells #[.slice A0 m.length c0, .slice A1 r.length c1, .slice A2 p.length c2] 25)) := (Below.refl _ w).alloc (Nat.le_refl _) _
    have hB2 := below_step hB1 hb2
    have hg := blk_below (heap_alloc_new w (.cells #[.slice A0 m.length c0, .slice A1 r.length c1, .slice A2 p.length c2] 25)) hb2
    have x0 : w2.cell? ⟨w.heap.size, 0, none⟩ = some (.slice A0 m.length c0) := (blk_cell hg 0).trans rfl
    have x1 : w2.cell? ⟨w.heap.size, 1, none⟩ = some (.slice A1 r.length c1) := (blk_cell hg 1).trans rfl
    have x2 : w2.cell? ⟨w.heap.size, 2, none⟩ = some (.slice A2 p.length c2) := (blk_cell hg 2).trans rfl
    have hs2 := hsides w2 hB2
    clear harc hsides hb2 hB1 hg
    go_upto_region 4 with (first | (go_at_call 76; refine hs2.mono ?_; rintro e w3 ⟨v3, rfl, ho3, hb3⟩) | go_step3)
    obtain ⟨A3, c3, e3⟩ := Kd.R_slice ho3
    subst e3
    have hr3 := Kd.R_reads' ho3
    have hB3 := below_step hB2 hb3
    clear x0 x1 x2 hs2 ho3 hb3 hB2
    go_wp2_with (go_step3)
    go_loopw [4, 17] (fun bv v wr => ∃ i : Nat, i ≤ L.length ∧ v = .int .i64 i ∧ bv = .bool false ∧ Aside0 (R = badV (L.drop i)) ∧ Below w3.heap.size w3 wr) (fun _ v _ => L.length - (intV v).toNat)
    case atStart => exact ⟨0, by omega, rfl, rfl, ⟨HMV.out⟩, Below.refl _ _⟩
    case round =>
      obtain ⟨i, hi, rfl, rfl, HR, hB⟩ := hrel
      rcases Nat.lt_or_ge i L.length with hlt | hge
      · have hii : (i : Int) < (L.length : Int) := by omega
        have hib : decide ((i : Int) < (L.length : Int)) = true := decide_eq_true hii
        have hCr := Kd.C_below hr3.2.2 hB
        obtain ⟨ad, eA, y0, y1, y2, y3, y4, y5, y6, y7, y8, y9⟩ := at_T109 hCr (i : Int) (by omega) hii
        subst eA
        rw [rd_sd L i hlt, Int.toNat_natCast] at y0 y1 y2 y3 y4 y5 y6 y7 y8 y9
        have hsi := hsm _ (List.getElem_mem hlt)
        have hdrop : L.drop i = L[i] :: L.drop (i + 1) := List.drop_eq_getElem_cons hlt
        have HD := Aside0.mk hdrop
        clear hdrop
        generalize L[i] = s at *
        obtain ⟨i0, hi0, hzz⟩ := Option.map_eq_some_iff.1 info109
        have hsz : i0.size = 10 := by simp only [Prod.mk.injEq] at hzz; exact hzz.2.1
        have ec : ((i : Int) + 1).toNat = i + 1 := by omega
        obtain ⟨A9, hcut, hC9⟩ : ∃ A9, (∀ W : World, (Instr.slice 106 (.slice (some ad) L.length c3) (some (.int .i64 ((i : Int) + 1))) none none).run Try.prog W = .ok (.slice A9 (L.length - (i + 1)) (c3 - (i + 1))) W) ∧ (∀ W : World, Kd.C k109 W (some ad) L.length L → Kd.C k109 W A9 (L.drop (i + 1)).length (L.drop (i + 1))) := by
          have h := cut_from (P := Try.prog) 106 109 .i64 Try.underlying106 hi0 10 hsz (some ad) L.length c3 ((i : Int) + 1) (by omega) (by omega)
          rw [ec] at h
          exact ⟨_, h, fun W hW => Kd.C_drop hW (by omega) hr3.2.1⟩
        have hT := hC9 wr hCr
        have hTl : (L.drop (i + 1)).length = L.length - (i + 1) := List.length_drop
        have hsub : ∀ x ∈ L.drop (i + 1), 0 ≤ x.f3 ∧ x.f3 ≤ 100000000 := fun x hx => hsm x (List.mem_of_mem_drop hx)
        rw [← hTl] at hcut
        have hRT : R = ((L.drop (i + 1)).any (fun x => !mayV s x) || badV (L.drop (i + 1))) := by rw [HR.out, HD.out]; rfl
        have HRT := Aside0.mk hRT
        have hTs : (L.drop (i + 1)).length ≤ 20000 := by omega
        clear hzz ec hi0 hsz hC9 hTl hRT HR HD hsub
        generalize hTD : L.drop (i + 1) = T at *
        have HTD := Aside0.mk hTD
        clear hTD
        go_upto_block 2 with (go_step3)
        clear y0 y1 y2 y3 y4 y5 y6 y7 y8 y9 hcut
        have hgs := heap_alloc_new wr (.cells #[.int .i64 s.f0.f0, .int .i64 s.f0.f1, .int .i64 s.f0.f2, .int .i64 s.f1.f0, .int .i64 s.f1.f1, .int .i64 s.f1.f2, .int .i64 s.f2, .int .i64 s.f3, .bool s.f4, .bool s.f5] 109)
        have hba : Below wr.heap.size wr (wr.alloc (.cells #[.int .i64 s.f0.f0, .int .i64 s.f0.f1, .int .i64 s.f0.f2, .int .i64 s.f1.f0, .int .i64 s.f1.f1, .int .i64 s.f1.f2, .int .i64 s.f2, .int .i64 s.f3, .bool s.f4, .bool s.f5] 109)) := (Below.refl _ wr).alloc (Nat.le_refl _) _
        generalize wr.alloc (.cells #[.int .i64 s.f0.f0, .int .i64 s.f0.f1, .int .i64 s.f0.f2, .int .i64 s.f1.f0, .int .i64 s.f1.f1, .int .i64 s.f1.f2, .int .i64 s.f2, .int .i64 s.f3, .bool s.f4, .bool s.f5] 109) = w4 at hgs hba ⊢
        have hT4 := Kd.C_below hT hba
        have hB4 := below_step hB hba
        clear hT hCr hB hba
        generalize wr.heap.size = gs at hgs ⊢
        clear wr
        go_wp2_with (go_step3)
        go_loopw [4, 27] (fun bv v wq => ∃ j : Nat, j ≤ T.length ∧ v = .int .i64 j ∧ bv = .bool false ∧ Aside0 (R = ((T.drop j).any (fun x => !mayV s x) || badV T)) ∧ Below w4.heap.size w4 wq) (fun _ v _ => T.length - (intV v).toNat)
        case atStart => exact ⟨0, by omega, rfl, rfl, ⟨HRT.out⟩, Below.refl _ _⟩
        case round =>
          obtain ⟨j, hj, rfl, rfl, HR2, hBq⟩ := hrel
          rcases Nat.lt_or_ge j T.length with hjt | hje
          · have hji : (j : Int) < (T.length : Int) := by omega
            have hjb : decide ((j : Int) < (T.length : Int)) = true := decide_eq_true hji
            obtain ⟨ad2, eA2, y0, y1, y2, y3, y4, y5, y6, y7, y8, y9⟩ := at_T109 (Kd.C_below hT4 hBq) (j : Int) (by omega) hji
            subst eA2
            rw [rd_sd T j hjt, Int.toNat_natCast] at y0 y1 y2 y3 y4 y5 y6 y7 y8 y9
            have hmay := fun W => may_calls s T[j] W hsi
            have hdrop : T.drop j = T[j] :: T.drop (j + 1) := List.drop_eq_getElem_cons hjt
            have hRj := HR2.out
            rw [hdrop, List.any_cons] at hRj
            have HRJ := Aside0.mk hRj
            have hgq := blk_below hgs hBq
            have z0 : wr.cell? ⟨gs, 0, none⟩ = some (.int .i64 s.f0.f0) := (blk_cell hgq 0).trans rfl
            have z1 : wr.cell? ⟨gs, 1, none⟩ = some (.int .i64 s.f0.f1) := (blk_cell hgq 1).trans rfl
            have z2 : wr.cell? ⟨gs, 2, none⟩ = some (.int .i64 s.f0.f2) := (blk_cell hgq 2).trans rfl
            have z3 : wr.cell? ⟨gs, 3, none⟩ = some (.int .i64 s.f1.f0) := (blk_cell hgq 3).trans rfl
            have z4 : wr.cell? ⟨gs, 4, none⟩ = some (.int .i64 s.f1.f1) := (blk_cell hgq 4).trans rfl
            have z5 : wr.cell? ⟨gs, 5, none⟩ = some (.int .i64 s.f1.f2) := (blk_cell hgq 5).trans rfl
            have z6 : wr.cell? ⟨gs, 6, none⟩ = some (.int .i64 s.f2) := (blk_cell hgq 6).trans rfl
            have z7 : wr.cell? ⟨gs, 7, none⟩ = some (.int .i64 s.f3) := (blk_cell hgq 7).trans rfl
            have z8 : wr.cell? ⟨gs, 8, none⟩ = some (.bool s.f4) := (blk_cell hgq 8).trans rfl
            have z9 : wr.cell? ⟨gs, 9, none⟩ = some (.bool s.f5) := (blk_cell hgq 9).trans rfl
            clear hdrop hRj HR2
            generalize T[j] = x at *
            have hlt := blk_lt hgq
            have hne : gs ≠ wr.heap.size := by omega
            have hne2 : wr.heap.size ≠ gs := by omega
            clear hgq
            go_upto_region 11 with (go_step3)
            clear y0 y1 y2 y3 y4 y5 y6 y7 y8 y9
            have hgs5 : (wr.alloc (.cells #[.int .i64 x.f0.f0, .int .i64 x.f0.f1, .int .i64 x.f0.f2, .int .i64 x.f1.f0, .int .i64 x.f1.f1, .int .i64 x.f1.f2, .int .i64 x.f2, .int .i64 x.f3, .bool x.f4, .bool x.f5] 109)).heap.size = wr.heap.size + 1 := by simp
            have hB5 := below_alloc hBq (.cells #[.int .i64 x.f0.f0, .int .i64 x.f0.f1, .int .i64 x.f0.f2, .int .i64 x.f1.f0, .int .i64 x.f1.f1, .int .i64 x.f1.f2, .int .i64 x.f2, .int .i64 x.f3, .bool x.f4, .bool x.f5] 109)
            cases hmv : mayV s x with
            | true =>
              rw [hmv] at hmay HRJ
              clear hmv
              go_wp2_with (first | (go_at_call 77; refine (hmay _).mono ?_; rintro e w6 ⟨rfl, hb6⟩) | go_step3)
              go_roundw
              case rel => exact ⟨j + 1, by omega, rfl, rfl, ⟨by rw [HRJ.out]; rfl⟩, below_step hB5 hb6⟩
              case measure => simp [intV]; omega
            | false =>
              rw [hmv] at hmay HRJ
              clear hmv
              go_wp2_with (first | (go_at_call 77; refine (hmay _).mono ?_; rintro e w6 ⟨rfl, hb6⟩) | go_step3)
              rw [Exit.noGoto_ret]
              go_ret
              exact ⟨by rw [HRJ.out]; rfl, below_step hB3 (below_step hB4 (below_step hB5 hb6))⟩
          · have hji : ¬ (j : Int) < (T.length : Int) := by omega
            have hjb : decide ((j : Int) < (T.length : Int)) = false := decide_eq_false hji
            have hRe : R = badV T := by rw [HR2.out, List.drop_of_length_le hje]; rfl
            have HRE := Aside0.mk hRe
            clear hRe HR2
            go_wp2_with (go_step3)
            go_roundw
            case rel => exact ⟨i + 1, by omega, rfl, rfl, ⟨by rw [HTD.out]; exact HRE.out⟩, below_step hB4 hBq⟩
            case measure => simp [intV]; omega
      · have hii : ¬ (i : Int) < (L.length : Int) := by omega
        have hib : decide ((i : Int) < (L.length : Int)) = false := decide_eq_false hii
        have hRe : R = false := by rw [HR.out, List.drop_of_length_le hge]; rfl
        have HRE := Aside0.mk hRe
        clear hRe HR
        go_wp2_with (go_step3)
        go_ret
        exact ⟨by rw [HRE.out]; rfl, below_step hB3 hB⟩
  · rw [decide_eq_false he, Bool.false_and] at hmv
    have heb : (arcsV m != 0) = true := bne_iff_ne.mpr he
    clear hlong he
    subst hmv
    go_enter Try.func57, Try.ntmps57
    go_wp2_with (first | (go_at_call 56; refine (harc _ ((Below.refl _ w).alloc (Nat.le_refl _) _)).mono ?_; rintro e w2 ⟨rfl, hb2⟩) | go_step3)
    rw [Exit.noGoto_ret]
    go_ret
    exact ⟨rfl, below_step ((Below.refl _ w).alloc (Nat.le_refl _) _) hb2⟩
end Go.Proofs.Ytbonkedecfjmdaa.Pl

namespace Go.Proofs.Ytbonkedecfjmdaa.Pl
set_option linter.unusedVariables false
set_option linter.unusedSimpArgs false
open Go Go.RowKit Go.Proofs.Ytbonkedecfjmdaa.P Go.Proofs.Ytbonkedecfjmdaa.G Go.Proofs.Ytbonkedecfjmdaa.WL Go.Proofs.YtbonkedecfjmdaaW.PrintWords Go.Proofs.YtbonkedecfjmdaaW.PrintLast Go.Proofs.YtbonkedecfjmdaaW.PrintMore

/-- How often each is named backwards. -/
def bckL (n : Nat) (l : List Int) : List Int := (List.range' 0 n).map fun k : Nat => ((l.count (-1 - (k : Int)) : Nat) : Int)
theorem bckL_len (n : Nat) (l : List Int) : (bckL n l).length = n := by simp [bckL]
theorem bckL_get (n : Nat) (l : List Int) (i : Nat) (h : i < n) : (bckL n l)[i]'(by rw [bckL_len]; exact h) = (l.count (-1 - (i : Int)) : Int) := by simp [bckL]
theorem bckL_nil (n : Nat) : bckL n [] = List.replicate n 0 := by
  apply List.ext_getElem
  · simp [bckL]
  · intro i h1 h2; simp [bckL]
theorem cnt1 (l : List Int) (k j : Int) : (l ++ [k]).count j = l.count j + if k = j then 1 else 0 := by
  rw [List.count_append, List.count_cons, List.count_nil]
  by_cases h : k = j
  · simp [h]
  · simp [h]
theorem bckL_snoc (n : Nat) (l : List Int) (k : Int) (q : Nat) (h : q < n) (e : k = -1 - (q : Int)) : bckL n (l ++ [k]) = (bckL n l).set q ((l.count k : Int) + 1) := by
  apply List.ext_getElem
  · simp [bckL]
  · intro i h1 h2
    rw [bckL_len] at h1
    rw [bckL_get n _ i h1, List.getElem_set, cnt1]
    by_cases e2 : q = i
    · subst e2
      rw [if_pos rfl, if_pos e, e]
      omega
    · rw [if_neg e2, bckL_get n _ i h1, if_neg (by omega)]
      omega
theorem cntL_skip (n : Nat) (l : List Int) (k : Int) (h : ¬ (0 ≤ k ∧ k < n)) : cntL n (l ++ [k]) = cntL n l := by
  apply List.ext_getElem
  · simp [cntL]
  · intro i h1 h2
    rw [cntL_len] at h1 h2
    rw [cntL_get n _ i h1, cntL_get n _ i h1, cnt1, if_neg (by omega)]
    omega
theorem bckL_skip (n : Nat) (l : List Int) (k : Int) (h : ¬ (0 ≤ -1 - k ∧ -1 - k < n)) : bckL n (l ++ [k]) = bckL n l := by
  apply List.ext_getElem
  · simp [bckL]
  · intro i h1 h2
    rw [bckL_len] at h1 h2
    rw [bckL_get n _ i h1, bckL_get n _ i h1, cnt1, if_neg (by omega)]
    omega
theorem not64' {x : Int} (h : -9223372036854775808 ≤ x) (h' : x ≤ 9223372036854775807) : Go.bits .xor .i64 (-1) x = -x - 1 := Gr.not64 h h'
theorem make_step_ints {ops : Array Oper} {o : Oper} {a : Act} {Q : Exit → Act → World → Prop} {Kc : Act → World → Prop} {W : World} (hw : Region.wanted o (yielded ops a.tmps) = true) {N : Tmp} (hd : o.dst = some N) (x y : Operand) (ho : o.op = .makeSlice 32 x y) (n : Nat) (hx : a.eval x = .int .i64 (n : Int)) (hy : a.eval y = .int .i64 (n : Int)) (hn : n ≤ 1000000)
    (h : ∀ w1, w1.heap[W.heap.size]? = some (.cells (blkI (List.replicate n 0)) 3 (0, 0)) → Below W.heap.size W w1 → Kc (a.put o.dst (.slice (some ⟨W.heap.size, 0, none⟩) n n)) w1) : if Region.wanted o (yielded ops a.tmps) = true then Oper.wp Try.prog o a W Kc Q else Kc (a.put o.dst undef) W := by
  obtain ⟨i0, hi, hzz⟩ := Option.map_eq_some_iff.1 inf3
  simp only [Prod.mk.injEq] at hzz
  obtain ⟨hz0, hz1, hz2⟩ := hzz
  have hr := run_make (P := Try.prog) W 32 3 i0 _ Try.underlying32 hi hz0 .i64 .i64 (n : Int) (n : Int) (by omega) (by omega) (by rw [hz2]; omega) (by omega)
  rw [Int.toNat_natCast, hz1, Nat.mul_one] at hr
  refine event_step (v := .slice (some ⟨W.heap.size, 0, none⟩) n n) (w1 := W.alloc (.cells (madeCells (Value.cells (.int .i64 0)) n) 3)) hw (by simp [execOp, ho, hx, hy, hr]) (h _ ?_ ((Below.refl _ W).alloc (Nat.le_refl _) _))
  have e : madeCells (Value.cells (.int .i64 0)) n = blkI (List.replicate n 0) := by
    apply Array.ext'
    show (madeCells #[Value.int .i64 0] n).toList = _
    rw [toList_madeCells_one]
    simp [blkI]
  rw [e]
  exact heap_alloc_new _ _
def usesT : Bool × List (List Nat × List Nat) := (true, [([], []), ([0], [0]), ([1], [1]), ([2, 2], [2]), ([], []), ([4], [4]), ([5], [5]), ([6, 6], [6]), ([3, 0, 1, 2, 3], [3]), ([7, 8, 0, 1, 2, 3, 4, 5, 6, 7, 8], [7])])
def usesB : List Nat := [0, 1, 3, 7, 0, 16, 48, 112, 15, 511]
theorem usesTab : rtab .any (opsOf Try.f37 1) = usesT := by kernel_rfl
theorem usesBits : waitsOk usesT.2 usesB = true := by kernel_rfl
set_option maxHeartbeats 8000000 in
set_option maxRecDepth 100000 in
theorem Uses_calls (A0 A1 A2 : Option Addr) (c0 c1 c2 : Nat) (m : List (List Pt)) (r p : List (List Int)) (w : World) (hr1 : Kd.C (Kd.slice 3 (Kd.int .i64)) w A1 r.length r) (hs : Small m r) (hml : m.length ≤ 1000000) :
    Calls Try.prog 37 #[.agg #[.slice A0 m.length c0, .slice A1 r.length c1, .slice A2 p.length c2]] w fun e w' => ∃ g1 g2 : Nat, e = .returned (.tuple #[.slice (some ⟨g1, 0, none⟩) m.length m.length, .slice (some ⟨g2, 0, none⟩) m.length m.length]) ∧ w'.heap[g1]? = some (.cells (blkI (cntL m.length r.flatten)) 3 (0, 0)) ∧ w'.heap[g2]? = some (.cells (blkI (bckL m.length r.flatten)) 3 (0, 0)) ∧ Below w.heap.size w w' := by
  have hu25 := Try.underlying25
  have hrl := hs.rings
  have hfl := hs.refs
  have hwf : ∀ n ∈ r.flatten, wf64 n := fun n hn => by
    obtain ⟨x, hx, hnx⟩ := List.mem_flatten.1 hn
    exact hs.wf x hx n hnx
  have hconcat := fun W (h : Below w.heap.size w W) => concat_calls A1 c1 r W (Kd.C_below hr1 h) (by omega) (by omega)
  generalize r.flatten = L at *
  go_enter Try.func37, Try.ntmps37
  have hba : Below w.heap.size w (w.alloc (.cells #[.slice A0 m.length c0, .slice A1 r.length c1, .slice A2 p.length c2] 25)) := (Below.refl _ w).alloc (Nat.le_refl _) _
  have hga := heap_alloc_new w (.cells #[.slice A0 m.length c0, .slice A1 r.length c1, .slice A2 p.length c2] 25)
  go_upto_region 1 with (go_step3)
  generalize w.alloc (.cells #[.slice A0 m.length c0, .slice A1 r.length c1, .slice A2 p.length c2] 25) = W0 at hba hga ⊢
  have hg6 := blk_drew hga
  have hB6 := below_drew1 hba
  clear hga hba
  refine start_ (n := 10) (S := fun w' => w'.cell? ⟨w.heap.size, 0, none⟩ = some (.slice A0 m.length c0) ∧ w'.cell? ⟨w.heap.size, 1, none⟩ = some (.slice A1 r.length c1) ∧ w'.cell? ⟨w.heap.size, 2, none⟩ = some (.slice A2 p.length c2)) (ds := []) #[false, false, false, false, false, false, false, false, false, false] (by kernel_rfl) rfl rfl ⟨(blk_cell hg6 0).trans rfl, (blk_cell hg6 1).trans rfl, (blk_cell hg6 2).trans rfl⟩ (fun hHeld => ?_); refine with_tabW usesTab usesBits (fun HT_ HW_ => ?_)
  generalize W0.drew = w6 at hg6 hB6 hHeld ⊢
  refine pure_ (i := 0) (N := some 8) (v := ?_) (a' := ?_) #[true, false, false, false, false, false, false, false, false, false] rfl rfl (any_of HT_.out (by kernel_rfl)) (fun _ _ _ h => h) (Or.inl ⟨by rfl, ?_⟩) ?_ ?_
  rotate_left
  · intro w'
    go_simp
    with_reducible rfl
  rotate_left
  · simp only [Act.put, List.setIfInBounds_toArray, List.set_cons_zero, List.set_cons_succ, i64_w, i32_w]
    rfl
  refine pure_ (i := 4) (N := some 12) (v := ?_) (a' := ?_) #[true, false, false, false, true, false, false, false, false, false] rfl rfl (any_of HT_.out (by kernel_rfl)) (fun _ _ _ h => h) (Or.inl ⟨by rfl, ?_⟩) ?_ ?_
  rotate_left
  · intro w'
    go_simp
    with_reducible rfl
  rotate_left
  · simp only [Act.put, List.setIfInBounds_toArray, List.set_cons_zero, List.set_cons_succ, i64_w, i32_w]
    rfl
  refine take_ (i := 1) (N := some 9) (v := ?_) (a' := ?_) #[true, true, false, false, true, false, false, false, false, false] rfl rfl (take_ofW HT_.out HW_.out (by kernel_rfl)) (fun _ _ _ h => h) (Or.inl ⟨by rfl, ?_⟩) hHeld ?_ ?_
  rotate_left
  · rintro w' ⟨s0, s1, s2⟩
    go_simp
    with_reducible rfl
  rotate_left
  · simp only [Act.put, List.setIfInBounds_toArray, List.set_cons_zero, List.set_cons_succ, i64_w, i32_w]
    rfl
  refine pure_ (i := 2) (N := some 10) (v := ?_) (a' := ?_) #[true, true, true, false, true, false, false, false, false, false] rfl rfl (any_of HT_.out (by kernel_rfl)) (fun _ _ _ h => h) (Or.inl ⟨by rfl, ?_⟩) ?_ ?_
  rotate_left
  · intro w'
    go_simp
    with_reducible rfl
  rotate_left
  · simp only [Act.put, List.setIfInBounds_toArray, List.set_cons_zero, List.set_cons_succ, i64_w, i32_w]
    rfl
  refine take_ (i := 5) (N := some 13) (v := ?_) (a' := ?_) #[true, true, true, false, true, true, false, false, false, false] rfl rfl (take_ofW HT_.out HW_.out (by kernel_rfl)) (fun _ _ _ h => h) (Or.inl ⟨by rfl, ?_⟩) hHeld ?_ ?_
  rotate_left
  · rintro w' ⟨s0, s1, s2⟩
    go_simp
    with_reducible rfl
  rotate_left
  · simp only [Act.put, List.setIfInBounds_toArray, List.set_cons_zero, List.set_cons_succ, i64_w, i32_w]
    rfl
  refine pure_ (i := 6) (N := some 14) (v := ?_) (a' := ?_) #[true, true, true, false, true, true, true, false, false, false] rfl rfl (any_of HT_.out (by kernel_rfl)) (fun _ _ _ h => h) (Or.inl ⟨by rfl, ?_⟩) ?_ ?_
  rotate_left
  · intro w'
    go_simp
    with_reducible rfl
  rotate_left
  · simp only [Act.put, List.setIfInBounds_toArray, List.set_cons_zero, List.set_cons_succ, i64_w, i32_w]
    rfl
  refine join_ (σ := Nat × Nat) 1 #[true, true, true, true, true, true, true, true, true, false] (fun s_ => [(11, .slice (some ⟨s_.1, 0, none⟩) m.length m.length), (15, .slice (some ⟨s_.2, 0, none⟩) m.length m.length), (4, .slice (some ⟨s_.1, 0, none⟩) m.length m.length)]) (fun s_ w' => (w'.cell? ⟨w.heap.size, 0, none⟩ = some (.slice A0 m.length c0) ∧ w'.cell? ⟨w.heap.size, 1, none⟩ = some (.slice A1 r.length c1) ∧ w'.cell? ⟨w.heap.size, 2, none⟩ = some (.slice A2 p.length c2)) ∧ w'.heap[s_.1]? = some (.cells (blkI (List.replicate m.length 0)) 3 (0, 0)) ∧ w'.heap[s_.2]? = some (.cells (blkI (List.replicate m.length 0)) 3 (0, 0)) ∧ s_.1 ≠ s_.2 ∧ w.heap.size < s_.1 ∧ w.heap.size < s_.2 ∧ w'.heap[w.heap.size]? = some (.cells #[.slice A0 m.length c0, .slice A1 r.length c1, .slice A2 p.length c2] 25 (0, 0)) ∧ Below w.heap.size w w') ?_ ?_
  rotate_left
  · intro hCont
    refine two_ (i := 3) (j := 7) (Ni := some 11) (Nj := some 15) #[true, true, true, true, true, true, true, false, false, false] #[true, true, true, false, true, true, true, true, false, false] rfl rfl rfl rfl (two_of HT_.out (by kernel_rfl)) (by decide) (by decide) (fun K hK => ?_) (fun K hK => ?_)
    rotate_left
    · skip
      refine make_step_ints (by rfl) (N := 15) rfl (.tmp 14) (.tmp 14) rfl m.length rfl rfl (by omega) ?_
      intro w7 hu7 hb7
      have hg7 := blk_below hg6 hb7
      have hB7 := below_step hB6 hb7
      have hlt7 := below_size hB6
      refine hK.out _ _ ⟨(blk_cell hg7 0).trans rfl, (blk_cell hg7 1).trans rfl, (blk_cell hg7 2).trans rfl⟩ (fun hHeld => ?_)
      clear hK K
      refine norm_ (a' := ?_) ?_ ?_
      rotate_left
      · show Act.put _ (some 15) _ = _
        simp only [Act.put, List.setIfInBounds_toArray, List.set_cons_zero, List.set_cons_succ, i64_w, i32_w]
        rfl
      refine one_ (i := 3) (N := some 11) #[true, true, true, true, true, true, true, true, false, false] rfl rfl (one_of HT_.out (by kernel_rfl)) (by decide) (fun K hK => ?_)
      refine make_step_ints (by rfl) (N := 11) rfl (.tmp 10) (.tmp 10) rfl m.length rfl rfl (by omega) ?_
      intro w9 hu9 hb9
      have hg9 := blk_below hg7 hb9
      have hB9 := below_step hB7 hb9
      have hu79 := blk_below hu7 hb9
      have hl7 := blk_lt hu7
      have hl6 := blk_lt hg6
      refine hK.out _ _ ⟨(blk_cell hg9 0).trans rfl, (blk_cell hg9 1).trans rfl, (blk_cell hg9 2).trans rfl⟩ (fun hHeld => ?_)
      clear hK K
      refine norm_ (a' := ?_) ?_ ?_
      rotate_left
      · show Act.put _ (some 11) _ = _
        simp only [Act.put, List.setIfInBounds_toArray, List.set_cons_zero, List.set_cons_succ, i64_w, i32_w]
        rfl
      refine pure_ (i := 8) (N := some 4) (v := ?_) (a' := ?_) #[true, true, true, true, true, true, true, true, true, false] rfl rfl (any_of HT_.out (by kernel_rfl)) (fun _ _ _ h => h) (Or.inl ⟨by rfl, ?_⟩) ?_ ?_
      rotate_left
      · intro w'
        go_simp
        with_reducible rfl
      rotate_left
      · simp only [Act.put, List.setIfInBounds_toArray, List.set_cons_zero, List.set_cons_succ, i64_w, i32_w]
        rfl
      exact norm_ (by simp only [putAll, Act.put, List.setIfInBounds_toArray, List.set_cons_zero, List.set_cons_succ]) (hCont (w7.heap.size, w6.heap.size) _ ⟨hHeld, hu9, hu79, (by show w7.heap.size ≠ w6.heap.size; omega), (by show w.heap.size < w7.heap.size; omega), (by show w.heap.size < w6.heap.size; omega), hg9, hB9⟩)
    · skip
      refine make_step_ints (by rfl) (N := 11) rfl (.tmp 10) (.tmp 10) rfl m.length rfl rfl (by omega) ?_
      intro w7 hu7 hb7
      have hg7 := blk_below hg6 hb7
      have hB7 := below_step hB6 hb7
      have hlt7 := below_size hB6
      refine hK.out _ _ ⟨(blk_cell hg7 0).trans rfl, (blk_cell hg7 1).trans rfl, (blk_cell hg7 2).trans rfl⟩ (fun hHeld => ?_)
      clear hK K
      refine norm_ (a' := ?_) ?_ ?_
      rotate_left
      · show Act.put _ (some 11) _ = _
        simp only [Act.put, List.setIfInBounds_toArray, List.set_cons_zero, List.set_cons_succ, i64_w, i32_w]
        rfl
      refine pure_ (i := 8) (N := some 4) (v := ?_) (a' := ?_) #[true, true, true, true, true, true, true, false, true, false] rfl rfl (any_of HT_.out (by kernel_rfl)) (fun _ _ _ h => h) (Or.inl ⟨by rfl, ?_⟩) ?_ ?_
      rotate_left
      · intro w'
        go_simp
        with_reducible rfl
      rotate_left
      · simp only [Act.put, List.setIfInBounds_toArray, List.set_cons_zero, List.set_cons_succ, i64_w, i32_w]
        rfl
      refine one_ (i := 7) (N := some 15) #[true, true, true, true, true, true, true, true, true, false] rfl rfl (one_of HT_.out (by kernel_rfl)) (by decide) (fun K hK => ?_)
      refine make_step_ints (by rfl) (N := 15) rfl (.tmp 14) (.tmp 14) rfl m.length rfl rfl (by omega) ?_
      intro w9 hu9 hb9
      have hg9 := blk_below hg7 hb9
      have hB9 := below_step hB7 hb9
      have hu79 := blk_below hu7 hb9
      have hl7 := blk_lt hu7
      have hl6 := blk_lt hg6
      refine hK.out _ _ ⟨(blk_cell hg9 0).trans rfl, (blk_cell hg9 1).trans rfl, (blk_cell hg9 2).trans rfl⟩ (fun hHeld => ?_)
      clear hK K
      refine norm_ (a' := ?_) ?_ ?_
      rotate_left
      · show Act.put _ (some 15) _ = _
        simp only [Act.put, List.setIfInBounds_toArray, List.set_cons_zero, List.set_cons_succ, i64_w, i32_w]
        rfl
      exact norm_ (by simp only [putAll, Act.put, List.setIfInBounds_toArray, List.set_cons_zero, List.set_cons_succ]) (hCont (w6.heap.size, w7.heap.size) _ ⟨hHeld, hu79, hu9, (by show w6.heap.size ≠ w7.heap.size; omega), (by show w.heap.size < w6.heap.size; omega), (by show w.heap.size < w7.heap.size; omega), hg9, hB9⟩)
  rintro ⟨g1, g2⟩ w11 ⟨hS_, hu1, hu2, hne, hlt1, hlt2, hgb, hB⟩
  simp only at hu1 hu2 hne hlt1 hlt2
  have hHeld : w11.cell? ⟨w.heap.size, 0, none⟩ = some (.slice A0 m.length c0) ∧ w11.cell? ⟨w.heap.size, 1, none⟩ = some (.slice A1 r.length c1) ∧ w11.cell? ⟨w.heap.size, 2, none⟩ = some (.slice A2 p.length c2) := hS_
  refine norm_ (a' := ?_) ?_ ?_
  rotate_left
  · simp only [putAll, Act.put, List.setIfInBounds_toArray, List.set_cons_zero, List.set_cons_succ]
    rfl
  refine pure_ (i := 9) (N := some 5) (v := ?_) (a' := ?_) #[true, true, true, true, true, true, true, true, true, true] rfl rfl (any_of HT_.out (by kernel_rfl)) (fun _ _ _ h => h) (Or.inl ⟨by rfl, ?_⟩) ?_ ?_
  rotate_left
  · intro w'
    go_simp
    with_reducible rfl
  rotate_left
  · simp only [Act.put, List.setIfInBounds_toArray, List.set_cons_zero, List.set_cons_succ, i64_w, i32_w]
    rfl
  refine done_ (done_of HT_.out (by kernel_rfl)) ?_
  have x1 : w11.cell? ⟨w.heap.size, 1, none⟩ = some (.slice A1 r.length c1) := (blk_cell hgb 1).trans rfl
  have hcc := hconcat w11 hB
  clear hconcat hS_ hHeld HT_ HW_ hg6 hB6
  go_upto_block 0 with (first | (go_at_call 39; refine hcc.mono ?_; rintro e w2 ⟨v2, rfl, ho2, hb2⟩; obtain ⟨A3, c3, e3⟩ := Kd.R_slice ho2; subst e3) | go_step3)
  have hRL := Kd.R_mono (ok' := fun k => w11.heap.size ≤ k) (Kd.R_bound ho2) (fun k hk => hk.2.1)
  have hg1l := blk_lt hu1
  have hg2l := blk_lt hu2
  have hu1' := blk_below hu1 hb2
  have hu2' := blk_below hu2 hb2
  have hB2 := below_step hB hb2
  clear ho2 hu1 hu2 hB hb2 hcc x1 hgb
  go_wp2_with (go_step3)
  go_loopw [20] (fun v wr => ∃ i : Nat, i ≤ L.length ∧ v = .int .i64 i ∧ wr.heap[g1]? = some (.cells (blkI (cntL m.length (L.take i))) 3 (0, 0)) ∧ wr.heap[g2]? = some (.cells (blkI (bckL m.length (L.take i))) 3 (0, 0)) ∧ Kd.R (Kd.int .i64) 3 wr w11.heap.size (fun k => w11.heap.size ≤ k) (.slice A3 L.length c3) L ∧ Below w.heap.size w wr) (fun v _ => L.length - (intV v).toNat)
  case atStart => exact ⟨0, by omega, rfl, by rw [List.take_zero, cntL_nil]; exact hu1', by rw [List.take_zero, bckL_nil]; exact hu2', hRL, hB2⟩
  case round =>
    clear hu1' hu2' hRL hB2
    obtain ⟨i, hi, rfl, hu1, hu2, hRL, hB⟩ := hrel
    rcases Nat.lt_or_ge i L.length with hlt | hge
    · have hii : (i : Int) < (L.length : Int) := by omega
      have hib : decide ((i : Int) < (L.length : Int)) = true := decide_eq_true hii
      obtain ⟨ad, eA, y0⟩ := Kd.at_int (Kd.R_reads' hRL).2.2 (i : Int) (by omega) hii
      subst eA
      rw [show rd L (i : Int) = L[i] by simp [rd, List.getD, List.getElem?_eq_getElem hlt], Int.toNat_natCast] at y0
      have htk : L.take (i + 1) = L.take i ++ [L[i]] := by rw [List.take_add_one, List.getElem?_eq_getElem hlt]; rfl
      obtain ⟨hw1, hw2⟩ := hwf _ (List.getElem_mem hlt)
      have hcl : (L.take i).count L[i] ≤ 20000 := Nat.le_trans List.count_le_length (by rw [List.length_take]; omega)
      have hx := not64' hw1 hw2
      have HTK := Aside0.mk htk
      clear htk
      generalize hk : L[i] = k at *
      clear hk
      by_cases h0 : k < 0
      · obtain ⟨q, hq⟩ := Int.eq_ofNat_of_zero_le (show 0 ≤ -k - 1 by omega)
        rw [hq] at hx
        have hx2 : Go.bits BinOp.xor IntKind.i64 (if IntKind.i64.signed = true then -1 else 9223372036854775807) k = (q : Int) := hx
        have h0b : decide (k < 0) = true := decide_eq_true h0
        have h0c : decide (0 ≤ k) = false := decide_eq_false (by omega)
        have HE := Aside0.mk (show k = -1 - (q : Int) by omega)
        have HC := Aside0.mk (show cntL m.length (L.take (i + 1)) = cntL m.length (L.take i) by rw [HTK.out]; exact cntL_skip _ _ k (by omega))
        clear hq
        by_cases hqn : q < m.length
        · have hqi : (q : Int) < (m.length : Int) := by omega
          have hqb : decide ((q : Int) < (m.length : Int)) = true := decide_eq_true hqi
          have hcu : wr.cell? ⟨g2, q, none⟩ = some (.int .i64 (((L.take i).count k : Nat) : Int)) := by
            rw [blk_cell hu2 q]
            unfold blkI
            have := bckL_get m.length (L.take i) q hqn
            rw [← HE.out] at this
            simp [this, bckL_len, hqn]
            try rw [List.getElem?_eq_getElem (by rw [bckL_len]; exact hqn), this]
            try rfl
          have hfz := blk_frozen hu2 q
          have HCN := Aside0.mk (show bckL m.length (L.take (i + 1)) = (bckL m.length (L.take i)).set q ((((L.take i).count k : Nat) : Int) + 1) by rw [HTK.out]; exact bckL_snoc m.length (L.take i) k q hqn HE.out)
          generalize (L.take i).count k = cn at *
          go_wp2_with (go_step3)
          go_roundw
          case rel =>
            refine ⟨i + 1, by omega, rfl, by rw [HC.out]; exact blk_far hu1 hne _, ?_, Kd.R_far (p := ⟨g2, q, none⟩) hRL (fun k hk => by show k ≠ g2; omega) _, below_set hB (by show w.heap.size ≤ g2; omega)⟩
            rw [HCN.out, ← blkI_set]
            exact blk_set hu2 q _
          case measure => simp [intV]; omega
        · have hqi : ¬ (q : Int) < (m.length : Int) := by omega
          have hqb : decide ((q : Int) < (m.length : Int)) = false := decide_eq_false hqi
          have HC2 := Aside0.mk (show bckL m.length (L.take (i + 1)) = bckL m.length (L.take i) by rw [HTK.out]; exact bckL_skip _ _ k (by have := HE.out; omega))
          go_wp2_with (go_step3)
          go_roundw
          case rel => exact ⟨i + 1, by omega, rfl, by rw [HC.out]; exact hu1, by rw [HC2.out]; exact hu2, hRL, hB⟩
          case measure => simp [intV]; omega
      · obtain ⟨q, rfl⟩ := Int.eq_ofNat_of_zero_le (show 0 ≤ k by omega)
        have HC := Aside0.mk (show bckL m.length (L.take (i + 1)) = bckL m.length (L.take i) by rw [HTK.out]; exact bckL_skip _ _ _ (by omega))
        by_cases hqn : q < m.length
        · have hqi : (q : Int) < (m.length : Int) := by omega
          have hqb : decide ((q : Int) < (m.length : Int)) = true := decide_eq_true hqi
          have hcu : wr.cell? ⟨g1, q, none⟩ = some (.int .i64 (((L.take i).count (q : Int) : Nat) : Int)) := by
            rw [blk_cell hu1 q]
            unfold blkI
            have := cntL_get m.length (L.take i) q hqn
            simp [this, cntL_len, hqn]
            try rw [List.getElem?_eq_getElem (by rw [cntL_len]; exact hqn), this]
            try rfl
          have hfz := blk_frozen hu1 q
          have HCN := Aside0.mk (show cntL m.length (L.take (i + 1)) = (cntL m.length (L.take i)).set q ((((L.take i).count (q : Int) : Nat) : Int) + 1) by rw [HTK.out]; exact cntL_snoc m.length (L.take i) q hqn)
          generalize (L.take i).count (q : Int) = cn at *
          clear h0
          go_wp2_with (go_step3)
          go_roundw
          case rel =>
            refine ⟨i + 1, by omega, rfl, ?_, by rw [HC.out]; exact blk_far hu2 (Ne.symm hne) _, Kd.R_far (p := ⟨g1, q, none⟩) hRL (fun k hk => by show k ≠ g1; omega) _, below_set hB (by show w.heap.size ≤ g1; omega)⟩
            rw [HCN.out, ← blkI_set]
            exact blk_set hu1 q _
          case measure => simp [intV]; omega
        · have hqi : ¬ (q : Int) < (m.length : Int) := by omega
          have hqb : decide ((q : Int) < (m.length : Int)) = false := decide_eq_false hqi
          have HC2 := Aside0.mk (show cntL m.length (L.take (i + 1)) = cntL m.length (L.take i) by rw [HTK.out]; exact cntL_skip _ _ _ (by omega))
          clear h0
          go_wp2_with (go_step3)
          go_roundw
          case rel => exact ⟨i + 1, by omega, rfl, by rw [HC2.out]; exact hu1, by rw [HC.out]; exact hu2, hRL, hB⟩
          case measure => simp [intV]; omega
    · have hii : ¬ (i : Int) < (L.length : Int) := by omega
      have hib : decide ((i : Int) < (L.length : Int)) = false := decide_eq_false hii
      rw [List.take_of_length_le hge] at hu1 hu2
      go_wp2_with (go_step3)
      go_ret2
      exact ⟨g1, g2, rfl, hu1, hu2, hB⟩
def ringOk (m : List (List Pt)) (r : List (List Int)) (k : Nat) : Bool := decide ((ringAt m r (k : Int)).2 = 0)
def useOk (L : List Int) (k : Nat) : Bool := decide (L.count (k : Int) ≤ 1 ∧ L.count (-1 - (k : Int)) ≤ 1 ∧ L.count (k : Int) + L.count (-1 - (k : Int)) ≠ 0)
/-- Whether all rings close, and each arc is named. -/
def closesV (m : List (List Pt)) (r : List (List Int)) : Bool := (List.range r.length).all (ringOk m r) && (List.range m.length).all (useOk r.flatten)
theorem all_upto {f : Nat → Bool} {n : Nat} (h : ∀ j, j < n → f j = true) : (List.range n).all f = true := List.all_eq_true.2 fun x hx => h x (List.mem_range.1 hx)
theorem all_not {f : Nat → Bool} {n j : Nat} (hj : j < n) (h : f j = false) : (List.range n).all f = false := by
  rw [Bool.eq_false_iff]
  intro h2
  have := List.all_eq_true.1 h2 j (List.mem_range.2 hj)
  rw [h] at this
  cases this
set_option maxHeartbeats 8000000 in
set_option maxRecDepth 100000 in
theorem Closes_calls (A0 A1 A2 : Option Addr) (c0 c1 c2 : Nat) (m : List (List Pt)) (r p : List (List Int)) (w : World) (hr0 : Kd.C (Kd.slice 27 k27) w A0 m.length m) (hc0 : m.length ≤ c0) (hr1 : Kd.C (Kd.slice 3 (Kd.int .i64)) w A1 r.length r) (hc1 : r.length ≤ c1) (hr2 : Kd.C (Kd.slice 3 (Kd.int .i64)) w A2 p.length p) (hc2 : p.length ≤ c2) (hs : Small m r) (hml : m.length ≤ 1000000) :
    Calls Try.prog 13 #[.agg #[.slice A0 m.length c0, .slice A1 r.length c1, .slice A2 p.length c2]] w fun e w' => e = .returned (.bool (closesV m r)) ∧ Below w.heap.size w w' := by
  have hu25 := Try.underlying25
  have hring : ∀ (k : Int) (W : World), Below w.heap.size w W → Calls Try.prog 33 #[.agg #[.slice A0 m.length c0, .slice A1 r.length c1, .slice A2 p.length c2], .int .i64 k] W fun e w' => ∃ v0_ : Value, e = .returned (.tuple #[v0_, .int .i64 (ringAt m r k).2]) ∧ Kd.R k27 27 w' W.heap.size (fun _ => True) v0_ (ringAt m r k).1 ∧ Below W.heap.size W w' := by
    intro k W hW
    obtain ⟨K, hK⟩ := ringAt_ev hs p k
    exact ring_Ring.calls K A0 c0 m A1 c1 r A2 c2 p k _ _ W (Kd.C_below hr0 hW) hc0 (Kd.C_below hr1 hW) hc1 (Kd.C_below hr2 hW) hc2 (hK K (Nat.le_refl _))
  have huses := fun W (h : Below w.heap.size w W) => Uses_calls A0 A1 A2 c0 c1 c2 m r p W (Kd.C_below hr1 h) hs hml
  have hrl := hs.rings
  have hfl := hs.refs
  have HR := Aside0.mk (show closesV m r = ((List.range r.length).all (ringOk m r) && (List.range m.length).all (useOk r.flatten)) from rfl)
  generalize closesV m r = R at *
  generalize r.flatten = L at *
  have hcl : ∀ x, L.count x ≤ 20000 := fun x => Nat.le_trans List.count_le_length hfl
  have HRING := Aside0.mk hring
  have HCL := Aside0.mk hcl
  clear hring hcl hr0 hr1 hr2
  go_enter Try.func13, Try.ntmps13
  have hba : Below w.heap.size w (w.alloc (.cells #[.slice A0 m.length c0, .slice A1 r.length c1, .slice A2 p.length c2] 25)) := (Below.refl _ w).alloc (Nat.le_refl _) _
  have hga := heap_alloc_new w (.cells #[.slice A0 m.length c0, .slice A1 r.length c1, .slice A2 p.length c2] 25)
  go_upto_region 1 with (go_step3)
  generalize w.alloc (.cells #[.slice A0 m.length c0, .slice A1 r.length c1, .slice A2 p.length c2] 25) = W0 at hba hga ⊢
  have x0 : W0.cell? ⟨w.heap.size, 0, none⟩ = some (.slice A0 m.length c0) := (blk_cell hga 0).trans rfl
  have x1 : W0.cell? ⟨w.heap.size, 1, none⟩ = some (.slice A1 r.length c1) := (blk_cell hga 1).trans rfl
  have x2 : W0.cell? ⟨w.heap.size, 2, none⟩ = some (.slice A2 p.length c2) := (blk_cell hga 2).trans rfl
  go_wp2_with (go_step3)
  go_loopw [13] (fun v wr => ∃ i : Nat, i ≤ r.length ∧ v = .int .i64 i ∧ wr.heap[w.heap.size]? = some (.cells #[.slice A0 m.length c0, .slice A1 r.length c1, .slice A2 p.length c2] 25 (0, 0)) ∧ Aside0 (∀ j, j < i → ringOk m r j = true) ∧ Below w.heap.size w wr) (fun v _ => r.length - (intV v).toNat)
  case atStart => exact ⟨0, by omega, rfl, hga, ⟨fun j hj => absurd hj (by omega)⟩, hba⟩
  case round =>
    clear x0 x1 x2 hga hba
    obtain ⟨i, hi, rfl, hg, HA, hB⟩ := hrel
    have x0 : wr.cell? ⟨w.heap.size, 0, none⟩ = some (.slice A0 m.length c0) := (blk_cell hg 0).trans rfl
    have x1 : wr.cell? ⟨w.heap.size, 1, none⟩ = some (.slice A1 r.length c1) := (blk_cell hg 1).trans rfl
    have x2 : wr.cell? ⟨w.heap.size, 2, none⟩ = some (.slice A2 p.length c2) := (blk_cell hg 2).trans rfl
    rcases Nat.lt_or_ge i r.length with hlt | hge
    · have hii : (i : Int) < (r.length : Int) := by omega
      have hib : decide ((i : Int) < (r.length : Int)) = true := decide_eq_true hii
      have hr := HRING.out (i : Int) wr hB
      have HOK := Aside0.mk (show ringOk m r i = decide ((ringAt m r (i : Int)).2 = 0) from rfl)
      generalize ringAt m r (i : Int) = q at *
      obtain ⟨l, e⟩ := q
      simp only at hr HOK
      by_cases he : e = 0
      · have HN := Aside0.mk (show ∀ j, j < i + 1 → ringOk m r j = true from fun j hj => by
          rcases Nat.lt_or_ge j i with h | h
          · exact HA.out j h
          · rw [show j = i by omega, HOK.out]; exact decide_eq_true he)
        subst he
        go_wp2_with (first | (go_at_call 33; refine hr.mono ?_; rintro ee w2 ⟨v2, rfl, ho2, hb2⟩) | go_step3)
        go_roundw
        case rel => exact ⟨i + 1, by omega, rfl, blk_below hg hb2, HN, below_step hB hb2⟩
        case measure => simp [intV]; omega
      · have heb : (e != 0) = true := by simpa using he
        have HRF := Aside0.mk (show R = false by rw [HR.out, all_not hlt (by rw [HOK.out]; exact decide_eq_false he), Bool.false_and])
        go_wp2_with (first | (go_at_call 33; refine hr.mono ?_; rintro ee w2 ⟨v2, rfl, ho2, hb2⟩) | go_step3)
        go_ret
        exact ⟨by rw [HRF.out]; rfl, below_step hB hb2⟩
    · have hii : ¬ (i : Int) < (r.length : Int) := by omega
      have hib : decide ((i : Int) < (r.length : Int)) = false := decide_eq_false hii
      have HR2 := Aside0.mk (show R = (List.range m.length).all (useOk L) by rw [HR.out, all_upto (fun j hj => HA.out j (by omega)), Bool.true_and])
      have hus := huses wr hB
      clear huses HA
      go_upto_region 9 with (first | (go_at_call 37; refine hus.mono ?_; rintro ee w2 ⟨g1, g2, rfl, hu1, hu2, hb2⟩) | go_step3)
      clear hus x0 x1 x2
      have hB2 := below_step hB hb2
      clear hb2 hB
      go_wp2_with (go_step3)
      go_loop [32] (fun v => ∃ i : Nat, i ≤ m.length ∧ v = .int .i64 i ∧ Aside0 (∀ j, j < i → useOk L j = true)) (fun v => m.length - (intV v).toNat)
      case atStart => exact ⟨0, by omega, rfl, ⟨fun j hj => absurd hj (by omega)⟩⟩
      case round =>
        obtain ⟨i, hi, rfl, HA⟩ := hrel
        rcases Nat.lt_or_ge i m.length with hlt | hge
        · have hii : (i : Int) < (m.length : Int) := by omega
          have hib : decide ((i : Int) < (m.length : Int)) = true := decide_eq_true hii
          have hcu : w2.cell? ⟨g1, i, none⟩ = some (.int .i64 ((L.count (i : Int) : Nat) : Int)) := by
            rw [blk_cell hu1 i]
            unfold blkI
            have := cntL_get m.length L i hlt
            simp [this, cntL_len, hlt]
            try rw [List.getElem?_eq_getElem (by rw [cntL_len]; exact hlt), this]
            try rfl
          have hcv : w2.cell? ⟨g2, i, none⟩ = some (.int .i64 ((L.count (-1 - (i : Int)) : Nat) : Int)) := by
            rw [blk_cell hu2 i]
            unfold blkI
            have := bckL_get m.length L i hlt
            simp [this, bckL_len, hlt]
            try rw [List.getElem?_eq_getElem (by rw [bckL_len]; exact hlt), this]
            try rfl
          have h1 := HCL.out (i : Int)
          have h2 := HCL.out (-1 - (i : Int))
          have HU := Aside0.mk (show useOk L i = decide (L.count (i : Int) ≤ 1 ∧ L.count (-1 - (i : Int)) ≤ 1 ∧ L.count (i : Int) + L.count (-1 - (i : Int)) ≠ 0) from rfl)
          generalize L.count (i : Int) = a at *
          generalize L.count (-1 - (i : Int)) = b at *
          by_cases ha : (a : Int) > 1
          · have HRF := Aside0.mk (show R = false by rw [HR2.out, all_not hlt (by rw [HU.out]; exact decide_eq_false (by omega))])
            go_wp2_with (go_step3)
            go_ret
            exact ⟨by rw [HRF.out]; rfl, hB2⟩
          · by_cases hb : (b : Int) > 1
            · have HRF := Aside0.mk (show R = false by rw [HR2.out, all_not hlt (by rw [HU.out]; exact decide_eq_false (by omega))])
              go_wp2_with (go_step3)
              go_ret
              exact ⟨by rw [HRF.out]; rfl, hB2⟩
            · by_cases hab : (a : Int) + (b : Int) = 0
              · have HRF := Aside0.mk (show R = false by rw [HR2.out, all_not hlt (by rw [HU.out]; exact decide_eq_false (by omega))])
                have hsb : ((a : Int) + (b : Int) == 0) = true := by rw [hab]; rfl
                clear hab HU
                go_wp2_with (go_step3)
                go_ret
                exact ⟨by rw [HRF.out]; rfl, hB2⟩
              · have HN := Aside0.mk (show ∀ j, j < i + 1 → useOk L j = true from fun j hj => by
                  rcases Nat.lt_or_ge j i with h | h
                  · exact HA.out j h
                  · rw [show j = i by omega, HU.out]; exact decide_eq_true (by omega))
                have hsb : ((a : Int) + (b : Int) == 0) = false := by simpa using hab
                clear hab HU
                go_wp2_with (go_step3)
                go_round
                case rel => exact ⟨i + 1, by omega, rfl, HN⟩
                case measure => simp [intV]; omega
        · have hii : ¬ (i : Int) < (m.length : Int) := by omega
          have hib : decide ((i : Int) < (m.length : Int)) = false := decide_eq_false hii
          have HRF := Aside0.mk (show R = true by rw [HR2.out]; exact all_upto (fun j hj => HA.out j (by omega)))
          go_wp2_with (go_step3)
          go_ret
          exact ⟨by rw [HRF.out]; rfl, hB2⟩
end Go.Proofs.Ytbonkedecfjmdaa.Pl

namespace Go.Proofs.Ytbonkedecfjmdaa.P
open Go.RowKit Go.Proofs.YtbonkedecfjmdaaW.PrintWords Go.Proofs.YtbonkedecfjmdaaW.PrintLast Go.Proofs.YtbonkedecfjmdaaW.PrintMore Go.Proofs.Ytbonkedecfjmdaa.X
attribute [local go_sem] max2_int min2_int max_two min_two max_three min_three max_four min_four add64_0 add64_1 add64   -- for this text's walks alone
set_option linter.unusedVariables false
set_option linter.unusedSimpArgs false

/-! ### plan_Closes: function 13 -/
def plan_Closes.f (l0_0 : List (List (S27))) (l0_1 : List (List Int)) (l0_2 : List (List Int)) : Option (Bool) := if (∀ x ∈ l0_0, x.length ≤ 20000) ∧ l0_1.length ≤ 20000 ∧ l0_1.flatten.length ≤ 20000 ∧ (∀ x ∈ l0_1, ∀ n ∈ x, -9223372036854775808 ≤ n ∧ n ≤ 9223372036854775807) ∧ l0_0.length ≤ 1000000 then (some (Pl.closesV l0_0 l0_1)) else (none)

set_option maxHeartbeats 8000000 in
set_option maxRecDepth 100000 in
theorem plan_Closes.calls (A0_0 : Option Addr) (c0_0 : Nat) (l0_0 : List (List (S27))) (A0_1 : Option Addr) (c0_1 : Nat) (l0_1 : List (List Int)) (A0_2 : Option Addr) (c0_2 : Nat) (l0_2 : List (List Int)) (r : Bool) (w : World) (hr0_0 : Kd.C (Kd.slice 27 k27) w A0_0 l0_0.length l0_0) (hc0_0 : l0_0.length ≤ c0_0) (hr0_1 : Kd.C (Kd.slice 3 (Kd.int .i64)) w A0_1 l0_1.length l0_1) (hc0_1 : l0_1.length ≤ c0_1) (hr0_2 : Kd.C (Kd.slice 3 (Kd.int .i64)) w A0_2 l0_2.length l0_2) (hc0_2 : l0_2.length ≤ c0_2) (h : plan_Closes.f l0_0 l0_1 l0_2 = some r) :
  Calls Try.prog 13 #[.agg #[.slice A0_0 l0_0.length c0_0, .slice A0_1 l0_1.length c0_1, .slice A0_2 l0_2.length c0_2]] w fun e w' => e = .returned (.bool r) ∧ Below w.heap.size w w' := by
 unfold plan_Closes.f at h
 by_cases hl : (∀ x ∈ l0_0, x.length ≤ 20000) ∧ l0_1.length ≤ 20000 ∧ l0_1.flatten.length ≤ 20000 ∧ (∀ x ∈ l0_1, ∀ n ∈ x, -9223372036854775808 ≤ n ∧ n ≤ 9223372036854775807) ∧ l0_0.length ≤ 1000000
 ·rw [if_pos hl] at h
  obtain rfl := Option.some.inj h
  exact Pl.Closes_calls A0_0 A0_1 A0_2 c0_0 c0_1 c0_2 l0_0 l0_1 l0_2 w hr0_0 hc0_0 hr0_1 hc0_1 hr0_2 hc0_2 ⟨hl.1, hl.2.1, hl.2.2.1, hl.2.2.2.1⟩ hl.2.2.2.2
 ·rw [if_neg hl] at h; cases h

end Go.Proofs.Ytbonkedecfjmdaa.P

namespace Go.Proofs.Ytbonkedecfjmdaa.P
open Go.RowKit Go.Proofs.YtbonkedecfjmdaaW.PrintWords Go.Proofs.YtbonkedecfjmdaaW.PrintLast Go.Proofs.YtbonkedecfjmdaaW.PrintMore Go.Proofs.Ytbonkedecfjmdaa.X
attribute [local go_sem] max2_int min2_int max_two min_two max_three min_three max_four min_four add64_0 add64_1 add64   -- for this text's walks alone
set_option linter.unusedVariables false
set_option linter.unusedSimpArgs false

/-! ### plan_Fills: function 15 -/
def plan_Fills.f (l0_0 : List (List (S27))) (l0_1 : List (List Int)) (l0_2 : List (List Int)) : Option (Bool) := if (∀ x ∈ l0_0, x.length ≤ 20000) ∧ l0_1.length ≤ 20000 ∧ l0_1.flatten.length ≤ 20000 ∧ (∀ x ∈ l0_1, ∀ n ∈ x, -9223372036854775808 ≤ n ∧ n ≤ 9223372036854775807) ∧ l0_2.length ≤ 20000 ∧ l0_2.flatten.length ≤ 20000 then (some (Pl.FillsV l0_0 l0_1 l0_2)) else (none)

set_option maxHeartbeats 8000000 in
set_option maxRecDepth 100000 in
theorem plan_Fills.calls (A0_0 : Option Addr) (c0_0 : Nat) (l0_0 : List (List (S27))) (A0_1 : Option Addr) (c0_1 : Nat) (l0_1 : List (List Int)) (A0_2 : Option Addr) (c0_2 : Nat) (l0_2 : List (List Int)) (r : Bool) (w : World) (hr0_0 : Kd.C (Kd.slice 27 k27) w A0_0 l0_0.length l0_0) (hc0_0 : l0_0.length ≤ c0_0) (hr0_1 : Kd.C (Kd.slice 3 (Kd.int .i64)) w A0_1 l0_1.length l0_1) (hc0_1 : l0_1.length ≤ c0_1) (hr0_2 : Kd.C (Kd.slice 3 (Kd.int .i64)) w A0_2 l0_2.length l0_2) (hc0_2 : l0_2.length ≤ c0_2) (h : plan_Fills.f l0_0 l0_1 l0_2 = some r) :
  Calls Try.prog 15 #[.agg #[.slice A0_0 l0_0.length c0_0, .slice A0_1 l0_1.length c0_1, .slice A0_2 l0_2.length c0_2]] w fun e w' => e = .returned (.bool r) ∧ Below w.heap.size w w' := by
 unfold plan_Fills.f at h
 by_cases hl : (∀ x ∈ l0_0, x.length ≤ 20000) ∧ l0_1.length ≤ 20000 ∧ l0_1.flatten.length ≤ 20000 ∧ (∀ x ∈ l0_1, ∀ n ∈ x, -9223372036854775808 ≤ n ∧ n ≤ 9223372036854775807) ∧ l0_2.length ≤ 20000 ∧ l0_2.flatten.length ≤ 20000
 ·rw [if_pos hl] at h
  obtain rfl := Option.some.inj h
  exact Pl.Fills_calls A0_0 A0_1 A0_2 c0_0 c0_1 c0_2 l0_0 l0_1 l0_2 w hr0_0 hc0_0 hr0_1 hc0_1 hr0_2 hc0_2 ⟨hl.1, hl.2.1, hl.2.2.1, hl.2.2.2.1⟩ hl.2.2.2.2.1 hl.2.2.2.2.2
 ·rw [if_neg hl] at h; cases h

end Go.Proofs.Ytbonkedecfjmdaa.P

namespace Go.Proofs.Ytbonkedecfjmdaa.P
open Go.RowKit Go.Proofs.YtbonkedecfjmdaaW.PrintWords Go.Proofs.YtbonkedecfjmdaaW.PrintLast Go.Proofs.YtbonkedecfjmdaaW.PrintMore Go.Proofs.Ytbonkedecfjmdaa.X
attribute [local go_sem] max2_int min2_int max_two min_two max_three min_three max_four min_four add64_0 add64_1 add64   -- for this text's walks alone
set_option linter.unusedVariables false
set_option linter.unusedSimpArgs false

/-! ### plan_Meets: function 57 -/
def plan_Meets.f (l0_0 : List (List (S27))) (l0_1 : List (List Int)) (l0_2 : List (List Int)) : Option (Bool) := if l0_0.length ≤ 1048576 ∧ ∀ x ∈ l0_0, x.length ≤ 1048576 then (some (Pl.meetsV l0_0)) else (none)

set_option maxHeartbeats 8000000 in
set_option maxRecDepth 100000 in
theorem plan_Meets.calls (A0_0 : Option Addr) (c0_0 : Nat) (l0_0 : List (List (S27))) (A0_1 : Option Addr) (c0_1 : Nat) (l0_1 : List (List Int)) (A0_2 : Option Addr) (c0_2 : Nat) (l0_2 : List (List Int)) (r : Bool) (w : World) (hr0_0 : Kd.C (Kd.slice 27 k27) w A0_0 l0_0.length l0_0) (hc0_0 : l0_0.length ≤ c0_0) (hr0_1 : Kd.C (Kd.slice 3 (Kd.int .i64)) w A0_1 l0_1.length l0_1) (hc0_1 : l0_1.length ≤ c0_1) (hr0_2 : Kd.C (Kd.slice 3 (Kd.int .i64)) w A0_2 l0_2.length l0_2) (hc0_2 : l0_2.length ≤ c0_2) (h : plan_Meets.f l0_0 l0_1 l0_2 = some r) :
  Calls Try.prog 57 #[.agg #[.slice A0_0 l0_0.length c0_0, .slice A0_1 l0_1.length c0_1, .slice A0_2 l0_2.length c0_2]] w fun e w' => e = .returned (.bool r) ∧ Below w.heap.size w w' := by
 unfold plan_Meets.f at h
 by_cases hl : l0_0.length ≤ 1048576 ∧ ∀ x ∈ l0_0, x.length ≤ 1048576
 ·rw [if_pos hl] at h
  obtain rfl := Option.some.inj h
  exact Pl.meets_calls A0_0 A0_1 A0_2 c0_0 c0_1 c0_2 l0_0 l0_1 l0_2 w hr0_0 hc0_0 hr0_1 hc0_1 hr0_2 hc0_2 hl.1 hl.2
 ·rw [if_neg hl] at h; cases h

end Go.Proofs.Ytbonkedecfjmdaa.P
