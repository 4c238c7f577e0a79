/- Chunk by chunk it is told what the chapter says: the walk over the law. No condition. Written for this claim by a program of this session (a turned copy of the print): Go functions as Lean functions, and that the Go code comes to just these answers; or a statement proved out of them. No condition. Sections of any length, written; and what is held of an archive's bytes. No condition. -/
import Derived.Test.YtglmfnaofpbpfaaZ19
import Derived.Test.YtglmfnaofpbpfaaZ8
import Derived.Deep.RegionHeld3
import Derived.Deep.QuietTactic
import Derived.BigQuiet
import Derived.Test.YtglmfnaofpbpfaaZ2
import Derived.Test.YtglmfnaofpbpfaaZ7

namespace Go.Proofs.Ytglmfnaofpbpfaa.Hf
set_option linter.unusedVariables false
set_option linter.unusedSimpArgs false
open Go Go.RowKit Go.Proofs.Ytglmfnaofpbpfaa.P Go.Proofs.Ytglmfnaofpbpfaa.C Go.Proofs.Ytglmfnaofpbpfaa.Fv Go.Proofs.YtglmfnaofpbpfaaW.PrintWords Go.Proofs.YtglmfnaofpbpfaaW.PrintLast Go.Proofs.YtglmfnaofpbpfaaW.PrintMore

theorem Sm_open {P : Nat → Prop} {base g : Nat} {w : World} {m : M} (h : Sm P base g w m) : base ≤ g ∧ P g ∧ ∃ A0 c0 A4 c4, w.heap[g]? = some (.cells (cellsM (.slice A0 m.took.length c0) (.slice A4 m.L.length c4) m) 28 (0, 0)) ∧ Kd.R (Kd.int .u8) 5 w base (fun k => P k ∧ k ≠ g) (.slice A0 m.took.length c0) m.took ∧ Kd.V k48 48 w base (fun k => (P k ∧ k ≠ g) ∧ some k ≠ (Value.slice A0 m.took.length c0).ownBlock) (.slice A4 m.L.length c4) m.L := by
  obtain ⟨h0, h1, v0, v4, hg, hR, hV⟩ := h
  obtain ⟨A0, c0, e0⟩ := Kd.R_slice hR
  obtain ⟨A4, c4, e4⟩ := Kd.V_slice hV
  subst e0; subst e4
  exact ⟨h0, h1, A0, c0, A4, c4, hg, hR, hV⟩
theorem sim_both (l : List Int) : Sim (l.foldl fstep fs0) (l.foldl stepM ⟨[], 0, false, 0, [], 0⟩) := sim_run l fs0 _ sim0
def m0 : M := ⟨[], 0, false, 0, [], 0⟩
theorem okM0 : okM m0 := ⟨by simp [m0], Nat.le_refl _, Nat.le_refl _⟩
set_option maxHeartbeats 8000000 in
set_option maxRecDepth 100000 in
theorem steps_calls (A0 A1 : Option Addr) (c0 c1 : Nat) (l0 l1 : List Int) (w : World) (hr0 : Kd.C (Kd.int .u8) w A0 l0.length l0) (hc0 : l0.length ≤ c0) (hr1 : Kd.C (Kd.int .u8) w A1 l1.length l1) (hc1 : l1.length ≤ c1) (hw : ∀ c ∈ l0, 0 ≤ c ∧ c ≤ 255) (hw1 : ∀ c ∈ l1, 0 ≤ c ∧ c ≤ 255) :
    Calls Try.prog 3 #[.slice A0 l0.length c0, .slice A1 l1.length c1] w fun e w' => e = .returned (.bool true) ∧ Below w.heap.size w w' := by
  have hkn := known_calls
  by_cases hlen : (l0.length : Int) > 1200
  · go_enter Try.func3, Try.ntmps3
    go_wp2_with (go_at_call 7; refine (hkn _).mono ?_; rintro e w2 ⟨rfl, hb2⟩)
    go_ret
    exact ⟨rfl, hb2⟩
  by_cases hlen1 : (l1.length : Int) > 60
  · go_enter Try.func3, Try.ntmps3
    go_wp2_with (go_at_call 7; refine (hkn _).mono ?_; rintro e w2 ⟨rfl, hb2⟩)
    go_ret
    exact ⟨rfl, hb2⟩
  have hl12 : l0.length ≤ 1200 := by omega
  obtain ⟨K1, hK1⟩ := cut_ev l0 l1 hw1 (by omega)
  have hK1 := hK1 K1 (Nat.le_refl _)
  have hflat := cut_flat l1 l0
  have hllen := cut_len l1 l0
  have hlwf := cut_wf l1 l0 hw
  generalize cutV l0 l1 = ls at *
  have hcut := fun W h h' => lapidaryref04_Cut.calls K1 (fun k => k < w.heap.size) A0 c0 l0 A1 c1 l1 ls W (Kd.V_mk hc0 (Kd.F_below (Kd.C_F (Kd.heap_int .u8) hr0) h)) (Kd.C_below hr1 h') hc1 hK1
  have hnew := new_calls w
  have HFLAT := Aside0.mk hflat
  have hlsn : ls.length ≤ 61 := by omega
  have hu := Try.underlying28
  clear hK1 hflat hllen
  go_enter Try.func3, Try.ntmps3
  go_upto_region 6 with (first | (go_at_call 8; refine hnew.mono ?_; rintro e w1 ⟨rfl, hF1, hb1⟩) | go_step3)
  have hgf := Fd_lt hF1
  clear hnew
  go_upto_region 7 with (go_step3)
  have hS2 : Sm (fun k => k = w1.heap.size) w.heap.size w1.heap.size (w1.alloc (.cells #[.slice none 0 0, .int .i64 0, .bool false, .int .i64 0, .slice none 0 0, .int .i64 0] 28)) m0 := ⟨hb1.size, rfl, .slice none 0 0, .slice none 0 0, heap_alloc_new _ _, Kd.R_nil _ _ _ _ _, Kd.V_nil _ _ _ _ _⟩
  have hb2 : Below w1.heap.size w1 (w1.alloc (.cells #[.slice none 0 0, .int .i64 0, .bool false, .int .i64 0, .slice none 0 0, .int .i64 0] 28)) := (Below.refl _ w1).alloc (Nat.le_refl _) _
  generalize w1.alloc (.cells #[.slice none 0 0, .int .i64 0, .bool false, .int .i64 0, .slice none 0 0, .int .i64 0] 28) = w2 at hS2 hb2 ⊢
  have hB2 := below_step hb1 hb2
  have hF2 := Fd_below hF1 hb2
  have hgs := Sm_lt hS2
  have hcut2 := hcut w2 hB2 hB2
  clear hcut hF1
  go_upto_region 8 with (first | (go_at_call 9; refine hcut2.mono ?_; rintro e w5 ⟨v7, rfl, ho7, hb5⟩) | go_step3)
  obtain ⟨A7, c7, e7⟩ := Kd.N_slice ho7
  subst e7
  have hs1 := hb1.size
  have hs2 := hb2.size
  have hs5 := hb5.size
  have hrows : Rows (fun k => k = w.heap.size ∨ k = w1.heap.size) w5 A7 ls := rows_N ho7 (fun k hk _ => by omega)
  have hB5 := below_step hB2 hb5
  have hF5 := Fd_below hF2 hb5
  have hS5 := Sm_below hS2 hb5
  clear ho7 hb1 hb2 hb5 hcut2 hB2 hF2 hS2
  go_wp2_with (go_step3)
  go_loopw [8] (fun v wr => ∃ (i : Nat) (Qf Qs : Nat → Prop), i ≤ ls.length ∧ v = .int .i64 i ∧ Fd Qf w.heap.size w.heap.size wr ((ls.take i).flatten.foldl fstep fs0) ∧ Sm Qs w.heap.size w1.heap.size wr ((ls.take i).flatten.foldl stepM m0) ∧ (∀ k, Qf k → Qs k → False) ∧ (∀ k, Qf k → k = w.heap.size ∨ w5.heap.size ≤ k) ∧ (∀ k, Qs k → k = w1.heap.size ∨ w5.heap.size ≤ k) ∧ Below w.heap.size w wr ∧ Kept w5 wr (fun k => k = w.heap.size ∨ k = w1.heap.size)) (fun v _ => ls.length - (intV v).toNat)
  case atStart => exact ⟨0, fun k => k = w.heap.size, fun k => k = w1.heap.size, by omega, rfl, hF5, hS5, fun k h1 h2 => by omega, fun k h => .inl h, fun k h => .inl h, hB5, Kept.refl _ _⟩
  case round =>
    clear hF5 hS5 hB5
    obtain ⟨i, Qf, Qs, hi, rfl, hF, hS, hdis, hqf, hqs, hB, hK⟩ := hrel
    have hsr := hK.1
    rcases Nat.lt_or_ge i ls.length with hlt | hge
    · have hii : (i : Int) < (ls.length : Int) := by omega
      have hib : decide ((i : Int) < (ls.length : Int)) = true := decide_eq_true hii
      obtain ⟨ad, A8, c8, eA, hc8, hrow⟩ := hrows i hlt
      have hcell := (hrow wr hK).1
      have hmem : ∀ x ∈ (ls.take i).flatten, 0 ≤ x ∧ x ≤ 255 := fun x hx => by
        obtain ⟨y, hy, hxy⟩ := List.mem_flatten.1 hx
        exact hlwf y (List.mem_of_mem_take hy) x hxy
      have hok := okF_run (ls.take i).flatten fs0 okF0 hmem
      have hokm := okM_run (ls.take i).flatten m0 okM0 hmem
      have hfl : (ls.take i).flatten.length + ls[i].length ≤ l0.length := by
        have h1 := congrArg List.length (flat_at ls i hlt)
        rw [HFLAT.out] at h1
        simp only [List.length_append] at h1
        omega
      have h0 : fs0.taken = 0 := rfl
      have h00 : m0.all = 0 := rfl
      have hwi := hlwf _ (List.getElem_mem hlt)
      have hfeed := feed1 w wr w.heap.size ((ls.take i).flatten.foldl fstep fs0) (fun k => Qf k ∧ k < wr.heap.size) ls[i] A8 c8 hB (Fd_bound hF) hok.1 (fun W hW => (hrow W (kept_then hK hW (fun k hk => hk) (fun k hk hq => by have := hqf k hq.1; omega))).2) hc8 hwi (by omega)
      have hnx : (ls.take (i + 1)).flatten.foldl fstep fs0 = ls[i].foldl fstep ((ls.take i).flatten.foldl fstep fs0) := by rw [take_flat ls i hlt, List.foldl_append]
      have hnm : (ls.take (i + 1)).flatten.foldl stepM m0 = ls[i].foldl stepM ((ls.take i).flatten.foldl stepM m0) := by rw [take_flat ls i hlt, List.foldl_append]
      have hsim := sim_both (ls.take (i + 1)).flatten
      have hok2 := okF_run (ls.take (i + 1)).flatten fs0 okF0 (fun x hx => by
        obtain ⟨y, hy, hxy⟩ := List.mem_flatten.1 hx
        exact hlwf y (List.mem_of_mem_take hy) x hxy)
      have hhd := held_run (ls.take (i + 1)).flatten fs0 held0
      have hfl2 : (ls.take (i + 1)).flatten.length ≤ l0.length := by rw [take_flat ls i hlt, List.length_append]; exact hfl
      have hall : ((ls.take i).flatten.foldl stepM m0).all + ls[i].length ≤ 1250 := by have := hokm.2; omega
      have HN := Aside0.mk hnx
      have HM := Aside0.mk hnm
      change Sim _ ((ls.take (i + 1)).flatten.foldl stepM m0) at hsim
      rw [hnx, hnm] at hsim
      rw [hnx] at hok2 hhd
      clear hnx hnm hok hmem
      have HROWS := Aside0.mk hrows
      have HROW := Aside0.mk hrow
      clear hrows hrow
      have hrowC : ∀ W, Kept w5 W (fun k => k = w.heap.size ∨ k = w1.heap.size) → Kd.C (Kd.int .u8) W A8 ls[i].length ls[i] := fun W hW => (HROW.out W hW).2
      have hrowX : ∀ W, Kept w5 W (fun k => k = w.heap.size ∨ k = w1.heap.size) → W.cell? (ad.add i) = some (.slice A8 ls[i].length c8) := fun W hW => (HROW.out W hW).1
      have HC := Aside0.mk hrowC
      have HX := Aside0.mk hrowX
      clear hrowC hrowX HROW hfl
      generalize hbe : ls[i] = b at *
      clear hbe
      have HOKM := Aside0.mk hokm.1
      clear hokm
      generalize b.foldl fstep ((ls.take i).flatten.foldl fstep fs0) = s2 at *
      generalize (ls.take i).flatten.foldl stepM m0 = m1 at *
      subst eA
      go_upto_region 12 with (first | (go_at_call 10; refine hfeed.mono ?_; rintro e w4 ⟨rfl, hF4, hB4, hK4⟩) | go_step3)
      clear hfeed hcell
      have hS4 := Sm_kept (Sm_bound hS) hK4 (fun k hk hq => hdis k hq.1 hk.1)
      have hK5 : Kept w5 w4 (fun k => k = w.heap.size ∨ k = w1.heap.size) := kept_then hK hK4 (fun k hk => hk) (fun k hk hq => by have := hqf k hq.1; omega)
      have hs4 := hK4.1
      obtain ⟨hs0, hsQ, B0, d0, B4, d4, hgs4, hR4, hV4⟩ := Sm_open hS4
      clear hS hS4
      have hp0 : ((0 : Int) ≤ (i : Int)) = True := eq_true (by omega)
      have hp1 : ((i : Int) < (ls.length : Int)) = True := eq_true hii
      refine start_ (n := 7) (S := fun w' => w'.cell? ⟨w1.heap.size, 0, none⟩ = some (.slice B0 m1.took.length d0) ∧ w'.cell? ⟨w1.heap.size, 1, none⟩ = some (.int .i64 m1.last) ∧ w'.cell? ⟨w1.heap.size, 2, none⟩ = some (.bool m1.fin) ∧ w'.cell? ⟨w1.heap.size, 3, none⟩ = some (.int .i64 (m1.all : Int)) ∧ w'.cell? ⟨w1.heap.size, 4, none⟩ = some (.slice B4 m1.L.length d4) ∧ w'.cell? ⟨w1.heap.size, 5, none⟩ = some (.int .i64 m1.e) ∧ w'.cell? (ad.add i) = some (.slice A8 b.length c8)) (ds := [6]) #[false, false, false, false, false, false, false] (by kernel_rfl) rfl rfl ⟨(blk_cell hgs4 0).trans rfl, (blk_cell hgs4 1).trans rfl, (blk_cell hgs4 2).trans rfl, (blk_cell hgs4 3).trans rfl, (blk_cell hgs4 4).trans rfl, (blk_cell hgs4 5).trans rfl, HX.out _ hK5⟩ (fun hHeld => ?_)
      have hgs6 : w4.drew.heap[w1.heap.size]? = _ := hgs4
      have hR6 := Kd.R_drew hR4
      have hV6 := Kd.V_drew hV4
      have hK6 : Kept w5 w4.drew (fun k => k = w.heap.size ∨ k = w1.heap.size) := Kept.drew hK5
      have hB6 : Below w.heap.size w w4.drew := below_drew hB4
      have hF6 : Fd _ w.heap.size w.heap.size w4.drew s2 := Fd_below hF4 (below_drew (Below.refl _ _))
      have hs6 : w4.drew.heap.size = w4.heap.size := rfl
      clear hgs4 hR4 hV4 hK5 hB4 hF4
      generalize w4.drew = w6 at *
      refine pure_ (i := 1) (N := some 44) (v := ?_) (a' := ?_) #[false, true, false, false, false, false, false] rfl rfl (by kernel_rfl) (fun _ _ _ h => h) (Or.inl ⟨by rfl, ?_⟩) ?_ ?_
      rotate_left
      · intro w'
        go_simp
        with_reducible rfl
      rotate_left
      · simp only [Act.put, List.setIfInBounds_toArray, List.set_cons_zero, List.set_cons_succ, i64_w, i32_w]
        rfl
      refine pure_ (i := 2) (N := some 45) (v := ?_) (a' := ?_) #[false, true, true, false, false, false, false] rfl rfl (by kernel_rfl) (fun _ _ _ h => h) (Or.inl ⟨by rfl, ?_⟩) ?_ ?_
      rotate_left
      · intro w'
        go_simp
        with_reducible rfl
      rotate_left
      · simp only [Act.put, List.setIfInBounds_toArray, List.set_cons_zero, List.set_cons_succ, i64_w, i32_w]
        rfl
      refine pure_ (i := 3) (N := some 46) (v := ?_) (a' := ?_) #[false, true, true, true, false, false, false] rfl rfl (by kernel_rfl) (fun _ _ _ h => h) (Or.inl ⟨by rfl, ?_⟩) ?_ ?_
      rotate_left
      · intro w'
        go_simp
        with_reducible rfl
      rotate_left
      · simp only [Act.put, List.setIfInBounds_toArray, List.set_cons_zero, List.set_cons_succ, i64_w, i32_w]
        rfl
      refine take_ (i := 0) (N := some 43) (v := ?_) (a' := ?_) #[true, true, true, true, false, false, false] rfl rfl (by kernel_rfl) (fun _ _ _ h => h) (Or.inl ⟨by rfl, ?_⟩) hHeld ?_ ?_
      rotate_left
      · rintro w' ⟨s0, s1, s2, s3, s4, s5, s6⟩
        go_simp
        with_reducible rfl
      rotate_left
      · simp only [Act.put, List.setIfInBounds_toArray, List.set_cons_zero, List.set_cons_succ, i64_w, i32_w]
        rfl
      refine take_ (i := 4) (N := some 47) (v := ?_) (a' := ?_) #[true, true, true, true, true, false, false] rfl rfl (by kernel_rfl) (fun _ _ _ h => h) (Or.inl ⟨by rfl, ?_⟩) hHeld ?_ ?_
      rotate_left
      · rintro w' ⟨s0, s1, s2, s3, s4, s5, s6⟩
        go_simp
        with_reducible rfl
      rotate_left
      · simp only [Act.put, List.setIfInBounds_toArray, List.set_cons_zero, List.set_cons_succ, i64_w, i32_w]
        rfl
      refine one_ (i := 5) (N := some 48) #[true, true, true, true, true, true, false] rfl rfl (by kernel_rfl) (by decide) (fun K hKK => ?_)
      refine goes_ Try.func11 (by kernel_rfl) rfl #[.agg #[.slice B0 m1.took.length d0, .int .i64 m1.last, .bool m1.fin, .int .i64 (m1.all : Int), .slice B4 m1.L.length d4, .int .i64 m1.e], .slice A8 b.length c8] (by rfl) rfl rfl (by (try simp only [List.map_toArray, List.map_cons, List.map_nil]); first | done | rfl) ?_
      refine (reffeed w w6 w1.heap.size (fun k => Qs k ∧ k < wr.heap.size) m1 b B0 B4 A8 d0 d4 c8 hB6 hs0 hsQ hgs6 hR6 hV6 (fun W hW => HC.out W (kept_then hK6 hW (fun k hk => hk) (fun k hk hq => by have := hqs k hq.1; omega))) hc8 HOKM.out hwi hall).mono ?_
      rintro e w8 ⟨B0', d0', B4', d4', rfl, hg8, hB8, hK8, hS8⟩
      refine ⟨_, rfl, ?_⟩
      have hK85 : Kept w5 w8 (fun k => k = w.heap.size ∨ k = w1.heap.size) := kept_then hK6 hK8 (fun k hk => hk) (fun k hk hq => by have := hqs k hq.1.1; omega)
      refine hKK.out _ _ ⟨(blk_cell hg8 0).trans rfl, (blk_cell hg8 1).trans rfl, (blk_cell hg8 2).trans rfl, (blk_cell hg8 3).trans rfl, (blk_cell hg8 4).trans rfl, (blk_cell hg8 5).trans rfl, HX.out _ hK85⟩ (fun hHeld => ?_)
      clear hKK K
      refine norm_ (a' := ?_) ?_ ?_
      rotate_left
      · show Act.put _ (some 48) _ = _
        simp only [Act.put, List.setIfInBounds_toArray, List.set_cons_zero, List.set_cons_succ, i64_w, i32_w]
        rfl
      refine last_ (i := 6) (N := none) #[true, true, true, true, true, true, true] rfl rfl (by kernel_rfl) (by decide) (fun K hKK => ?_)
      have q0 : w8.cell? ⟨w1.heap.size, 0, none⟩ = some (.slice B0 m1.took.length d0) := (blk_cell hg8 0).trans rfl
      have z0 := blk_frozen hg8 0
      have q1 : w8.cell? ⟨w1.heap.size, 1, none⟩ = some (.int .i64 m1.last) := (blk_cell hg8 1).trans rfl
      have z1 := blk_frozen hg8 1
      have q2 : w8.cell? ⟨w1.heap.size, 2, none⟩ = some (.bool m1.fin) := (blk_cell hg8 2).trans rfl
      have z2 := blk_frozen hg8 2
      have q3 : w8.cell? ⟨w1.heap.size, 3, none⟩ = some (.int .i64 (m1.all : Int)) := (blk_cell hg8 3).trans rfl
      have z3 := blk_frozen hg8 3
      have q4 : w8.cell? ⟨w1.heap.size, 4, none⟩ = some (.slice B4 m1.L.length d4) := (blk_cell hg8 4).trans rfl
      have z4 := blk_frozen hg8 4
      have q5 : w8.cell? ⟨w1.heap.size, 5, none⟩ = some (.int .i64 m1.e) := (blk_cell hg8 5).trans rfl
      have z5 := blk_frozen hg8 5
      refine skip_ (w1 := ?_) (by rfl) rfl ?_ ?_
      rotate_left
      · go_simp
        rfl
      refine hKK.out _ _ ?_
      clear hKK K
      refine done_ (by kernel_rfl) ?_
      clear q0 q1 q2 q3 q4 q5 z0 z1 z2 z3 z4 z5
      generalize b.foldl stepM m1 = m2 at *
      have hK9 := Kept.setCell (Kept.setCell (Kept.setCell (Kept.setCell (Kept.setCell (Kept.setCell (kept_mono (S' := fun k => Qs k ∧ k < wr.heap.size) hK8 (fun k hk => hk.1)) (p := ⟨w1.heap.size, 0, none⟩) (.inl hsQ) (.slice B0' m2.took.length d0')) (p := ⟨w1.heap.size, 1, none⟩) (.inl hsQ) (.int .i64 m2.last)) (p := ⟨w1.heap.size, 2, none⟩) (.inl hsQ) (.bool m2.fin)) (p := ⟨w1.heap.size, 3, none⟩) (.inl hsQ) (.int .i64 (m2.all : Int))) (p := ⟨w1.heap.size, 4, none⟩) (.inl hsQ) (.slice B4' m2.L.length d4')) (p := ⟨w1.heap.size, 5, none⟩) (.inl hsQ) (.int .i64 m2.e)
      have hB9 : Below w.heap.size w ((((((w8.setCell ⟨w1.heap.size, 0, none⟩ (.slice B0' m2.took.length d0')).setCell ⟨w1.heap.size, 1, none⟩ (.int .i64 m2.last)).setCell ⟨w1.heap.size, 2, none⟩ (.bool m2.fin)).setCell ⟨w1.heap.size, 3, none⟩ (.int .i64 (m2.all : Int))).setCell ⟨w1.heap.size, 4, none⟩ (.slice B4' m2.L.length d4')).setCell ⟨w1.heap.size, 5, none⟩ (.int .i64 m2.e)) := below_set (below_set (below_set (below_set (below_set (below_set hB8 hs0) hs0) hs0) hs0) hs0) hs0
      generalize (((((w8.setCell ⟨w1.heap.size, 0, none⟩ (.slice B0' m2.took.length d0')).setCell ⟨w1.heap.size, 1, none⟩ (.int .i64 m2.last)).setCell ⟨w1.heap.size, 2, none⟩ (.bool m2.fin)).setCell ⟨w1.heap.size, 3, none⟩ (.int .i64 (m2.all : Int))).setCell ⟨w1.heap.size, 4, none⟩ (.slice B4' m2.L.length d4')).setCell ⟨w1.heap.size, 5, none⟩ (.int .i64 m2.e) = w9 at *
      clear hgs6 hR6 hV6 hB6 hB8 hK8 hg8 hHeld HX HC hp0 hp1
      have hF9 := Fd_kept (Fd_bound hF6) hK9 (fun k hk hq => hk.1.elim (fun x => hdis k x.1 hq.1) (fun x => by omega))
      have hK59 : Kept w5 w9 (fun k => k = w.heap.size ∨ k = w1.heap.size) := kept_then hK6 hK9 (fun k hk => hk) (fun k hk hq => by have := hqs k hq.1; omega)
      clear hF6 hK6 hK85
      obtain ⟨_, _, E0, f0, E4, f4, hg9, hR9, hV9⟩ := Sm_open hS8
      have hse := hsim.2.2.2.2.1
      have hst := hsim.2.2.1
      have q3 : w9.cell? ⟨w1.heap.size, 3, none⟩ = some (.int .i64 (s2.taken : Int)) := by rw [hst]; exact (blk_cell hg9 3).trans rfl
      have q5 : w9.cell? ⟨w1.heap.size, 5, none⟩ = some (.int .i64 s2.e) := by rw [hse]; exact (blk_cell hg9 5).trans rfl
      have HSE := Aside0.mk hse
      clear hse hst
      have htk := taken_calls _ _ _ w9 _ hF9
      have HSIM := Aside0.mk hsim
      clear hsim
      go_wp2_with (go_step3)
      go_quiet ((go_at_call 12; exact Calls.quiet_of_same (taken_calls _ _ _ _ _ (Fd_below hF9 (pw_below_drewN (Below.refl _ _) _)))))
      have hd : Below w9.heap.size w9 (w9.drewN nq) := pw_below_drewN (Below.refl _ _) nq
      have hF10 := Fd_below hF9 hd
      have hg10 : (w9.drewN nq).heap[w1.heap.size]? = _ := hg9
      have hR10 := Kd.R_drewN hR9 nq
      have hV10 := Kd.V_drewN hV9 nq
      have hB10 := pw_below_drewN hB9 nq
      have hK10 : Kept w5 (w9.drewN nq) (fun k => k = w.heap.size ∨ k = w1.heap.size) := Kept.drewN hK59 nq
      have hz10 : (w9.drewN nq).heap.size = w9.heap.size := rfl
      clear hF9 hg9 hR9 hV9 hB9 hK59 q3 q5 hS8 htk hd
      have hs9 := hK9.1
      clear hK9
      generalize w9.drewN nq = w10 at *
      have hsim := HSIM.out
      have q5 : w10.cell? ⟨w1.heap.size, 5, none⟩ = some (.int .i64 m2.e) := (blk_cell hg10 5).trans rfl
      have hok3 := hok2.1.2.2.1
      have hok4 := hok2.2
      have hm2 : m2.all = s2.taken := hsim.2.2.1.symm
      have hmL : m2.L = s2.L := hsim.2.2.2.1.symm
      have hHF : ∀ W, Below w10.heap.size w10 W → _ := fun W h => held_calls _ _ _ W _ (Fd_below hF10 h) (by omega) (by omega)
      by_cases he : m2.e = 0
      · have heb : (m2.e == 0) = true := beq_iff_eq.mpr he
        have hhs := held_sim s2 m2 hsim he
        have hhm : heldM m2 ≤ 1000000 := by omega
        obtain ⟨K3, hK3⟩ := heldm_ev m2 hhm (by rw [hmL]; omega)
        have hK3 := hK3 K3 (Nat.le_refl _)
        have hHM : ∀ W, Below w10.heap.size w10 W → _ := fun W h => lapidaryref04_Held.calls K3 E0 f0 m2.took m2.last m2.fin (m2.all : Int) E4 f4 m2.L m2.e _ W (Kd.C_below (Kd.R_reads' hR10).2.2 h) (Kd.R_reads' hR10).2.1 (Kd.C_below (Kd.V_reads' hV10).2.2 h) (Kd.V_reads' hV10).2.1 hK3
        rw [hhs] at hHF
        clear hhs hK3 hok3 hok4 hm2 hmL hsim he
        have q0 : w10.cell? ⟨w1.heap.size, 0, none⟩ = some (.slice E0 m2.took.length f0) := (blk_cell hg10 0).trans rfl
        clear q0
        go_wp2_with (go_step3)
        refine start_ (n := 10) (S := fun w' => w'.cell? ⟨w1.heap.size, 0, none⟩ = some (.slice E0 m2.took.length f0) ∧ w'.cell? ⟨w1.heap.size, 1, none⟩ = some (.int .i64 m2.last) ∧ w'.cell? ⟨w1.heap.size, 2, none⟩ = some (.bool m2.fin) ∧ w'.cell? ⟨w1.heap.size, 3, none⟩ = some (.int .i64 (m2.all : Int)) ∧ w'.cell? ⟨w1.heap.size, 4, none⟩ = some (.slice E4 m2.L.length f4) ∧ w'.cell? ⟨w1.heap.size, 5, none⟩ = some (.int .i64 m2.e)) (ds := []) #[false, false, false, false, false, false, false, false, false, false] (by kernel_rfl) rfl rfl ⟨(blk_cell hg10 0).trans rfl, (blk_cell hg10 1).trans rfl, (blk_cell hg10 2).trans rfl, (blk_cell hg10 3).trans rfl, (blk_cell hg10 4).trans rfl, (blk_cell hg10 5).trans rfl⟩ (fun hHeld => ?_)
        refine pure_ (i := 0) (N := some 60) (v := ?_) (a' := ?_) #[true, false, false, false, false, false, false, false, false, false] rfl rfl (by kernel_rfl) (fun _ _ _ h => h) (Or.inl ⟨by rfl, ?_⟩) ?_ ?_
        rotate_left
        · intro w'
          go_simp
          with_reducible rfl
        rotate_left
        · simp only [Act.put, List.setIfInBounds_toArray, List.set_cons_zero, List.set_cons_succ, i64_w, i32_w]
          rfl
        refine take_ (i := 1) (N := some 61) (v := ?_) (a' := ?_) #[true, true, false, false, false, false, false, false, false, false] rfl rfl (by kernel_rfl) (fun _ _ _ h => h) (Or.inl ⟨by rfl, ?_⟩) hHeld ?_ ?_
        rotate_left
        · rintro w' ⟨s0, s1, s2, s3, s4, s5⟩
          go_simp
          with_reducible rfl
        rotate_left
        · simp only [Act.put, List.setIfInBounds_toArray, List.set_cons_zero, List.set_cons_succ, i64_w, i32_w]
          rfl
        refine pure_ (i := 2) (N := some 62) (v := ?_) (a' := ?_) #[true, true, true, false, false, false, false, false, false, false] rfl rfl (by kernel_rfl) (fun _ _ _ h => h) (Or.inl ⟨by rfl, ?_⟩) ?_ ?_
        rotate_left
        · intro w'
          go_simp
          with_reducible rfl
        rotate_left
        · simp only [Act.put, List.setIfInBounds_toArray, List.set_cons_zero, List.set_cons_succ, i64_w, i32_w]
          rfl
        refine pure_ (i := 3) (N := some 63) (v := ?_) (a' := ?_) #[true, true, true, true, false, false, false, false, false, false] rfl rfl (by kernel_rfl) (fun _ _ _ h => h) (Or.inl ⟨by rfl, ?_⟩) ?_ ?_
        rotate_left
        · intro w'
          go_simp
          with_reducible rfl
        rotate_left
        · simp only [Act.put, List.setIfInBounds_toArray, List.set_cons_zero, List.set_cons_succ, i64_w, i32_w]
          rfl
        refine pure_ (i := 4) (N := some 64) (v := ?_) (a' := ?_) #[true, true, true, true, true, false, false, false, false, false] rfl rfl (by kernel_rfl) (fun _ _ _ h => h) (Or.inl ⟨by rfl, ?_⟩) ?_ ?_
        rotate_left
        · intro w'
          go_simp
          with_reducible rfl
        rotate_left
        · simp only [Act.put, List.setIfInBounds_toArray, List.set_cons_zero, List.set_cons_succ, i64_w, i32_w]
          rfl
        refine take_ (i := 6) (N := some 66) (v := ?_) (a' := ?_) #[true, true, true, true, true, false, true, false, false, false] rfl rfl (by kernel_rfl) (fun _ _ _ h => h) (Or.inl ⟨by rfl, ?_⟩) hHeld ?_ ?_
        rotate_left
        · rintro w' ⟨s0, s1, s2, s3, s4, s5⟩
          go_simp
          with_reducible rfl
        rotate_left
        · simp only [Act.put, List.setIfInBounds_toArray, List.set_cons_zero, List.set_cons_succ, i64_w, i32_w]
          rfl
        refine one_ (i := 5) (N := some 65) #[true, true, true, true, true, true, true, false, false, false] rfl rfl (by kernel_rfl) (by decide) (fun K hK => ?_)
        have hdw : Below w10.heap.size w10 w10.drew := below_drew (Below.refl _ _)
        refine goes_ Try.func13 (by kernel_rfl) rfl #[.pointer (some ⟨w.heap.size, 0, none⟩)] (by rfl) rfl rfl (by (try simp only [List.map_toArray, List.map_cons, List.map_nil]); first | done | rfl) ?_
        refine (hHF _ hdw).mono ?_
        rintro e w11 ⟨rfl, hb11⟩
        refine ⟨_, rfl, ?_⟩
        have hb11 := below_step hdw hb11
        have hg11 := blk_below hg10 hb11
        refine hK.out _ _ ⟨(blk_cell hg11 0).trans rfl, (blk_cell hg11 1).trans rfl, (blk_cell hg11 2).trans rfl, (blk_cell hg11 3).trans rfl, (blk_cell hg11 4).trans rfl, (blk_cell hg11 5).trans rfl⟩ (fun hHeld => ?_)
        clear hK K
        refine norm_ (a' := ?_) ?_ ?_
        rotate_left
        · show Act.put _ (some 65) _ = _
          simp only [Act.put, List.setIfInBounds_toArray, List.set_cons_zero, List.set_cons_succ, i64_w, i32_w]
          rfl
        refine one_ (i := 7) (N := some 67) #[true, true, true, true, true, true, true, true, false, false] rfl rfl (by kernel_rfl) (by decide) (fun K hK => ?_)
        refine goes_ Try.func14 (by kernel_rfl) rfl #[.agg #[.slice E0 m2.took.length f0, .int .i64 m2.last, .bool m2.fin, .int .i64 (m2.all : Int), .slice E4 m2.L.length f4, .int .i64 m2.e]] (by rfl) rfl rfl (by (try simp only [List.map_toArray, List.map_cons, List.map_nil]); first | done | rfl) ?_
        refine (hHM _ hb11).mono ?_
        rintro e w12 ⟨rfl, hb12⟩
        refine ⟨_, rfl, ?_⟩
        have hb12 := below_step hb11 hb12
        have hg12 := blk_below hg10 hb12
        refine hK.out _ _ ⟨(blk_cell hg12 0).trans rfl, (blk_cell hg12 1).trans rfl, (blk_cell hg12 2).trans rfl, (blk_cell hg12 3).trans rfl, (blk_cell hg12 4).trans rfl, (blk_cell hg12 5).trans rfl⟩ (fun hHeld => ?_)
        clear hK K
        refine norm_ (a' := ?_) ?_ ?_
        rotate_left
        · show Act.put _ (some 67) _ = _
          simp only [Act.put, List.setIfInBounds_toArray, List.set_cons_zero, List.set_cons_succ, i64_w, i32_w]
          rfl
        refine pure_ (i := 8) (N := some 68) (v := ?_) (a' := ?_) #[true, true, true, true, true, true, true, true, true, false] rfl rfl (by kernel_rfl) (fun _ _ _ h => h) (Or.inl ⟨by rfl, ?_⟩) ?_ ?_
        rotate_left
        · intro w'
          go_simp
          with_reducible rfl
        rotate_left
        · simp only [Act.put, List.setIfInBounds_toArray, List.set_cons_zero, List.set_cons_succ, i64_w, i32_w]
          rfl
        refine pure_ (i := 9) (N := some 69) (v := ?_) (a' := ?_) #[true, true, true, true, true, true, true, true, true, true] rfl rfl (by kernel_rfl) (fun _ _ _ h => h) (Or.inl ⟨by rfl, ?_⟩) ?_ ?_
        rotate_left
        · intro w'
          go_simp
          with_reducible rfl
        rotate_left
        · simp only [Act.put, List.setIfInBounds_toArray, List.set_cons_zero, List.set_cons_succ, i64_w, i32_w]
          rfl
        refine done_ (by kernel_rfl) ?_
        
        go_wp2_with (go_step3)
        go_roundw
        case rel => exact ⟨i + 1, fun k => ((Qf k ∧ k < wr.heap.size) ∨ wr.heap.size ≤ k) ∧ k < w6.heap.size, fun k => (Qs k ∧ k < wr.heap.size) ∨ w6.heap.size ≤ k, by omega, rfl, by rw [HN.out]; exact Fd_below hF10 hb12, by rw [HM.out]; exact Sm_below ⟨hs0, .inl hsQ, _, _, hg10, hR10, hV10⟩ hb12, fun k h1 h2 => h2.elim (fun y => h1.1.elim (fun x => hdis k x.1 y.1) (fun x => by omega)) (fun y => by omega), fun k h1 => h1.1.elim (fun x => hqf k x.1) (fun x => .inr (by omega)), fun k h1 => h1.elim (fun x => hqs k x.1) (fun x => .inr (by omega)), below_step hB10 hb12, kept_then hK10 (kept_below hb12 (fun _ => False)) (fun k hk => hk) (fun k _ hk => hk.elim)⟩
        case measure => simp [intV]; omega
      · have heb : (m2.e == 0) = false := beq_eq_false_iff_ne.mpr he
        clear hok3 hok4 hm2 hmL hsim he
        go_wp2_with (go_step3)
        refine start_ (n := 10) (S := fun w' => w'.cell? ⟨w1.heap.size, 0, none⟩ = some (.slice E0 m2.took.length f0) ∧ w'.cell? ⟨w1.heap.size, 1, none⟩ = some (.int .i64 m2.last) ∧ w'.cell? ⟨w1.heap.size, 2, none⟩ = some (.bool m2.fin) ∧ w'.cell? ⟨w1.heap.size, 3, none⟩ = some (.int .i64 (m2.all : Int)) ∧ w'.cell? ⟨w1.heap.size, 4, none⟩ = some (.slice E4 m2.L.length f4) ∧ w'.cell? ⟨w1.heap.size, 5, none⟩ = some (.int .i64 m2.e)) (ds := []) #[false, false, false, false, false, false, false, false, false, false] (by kernel_rfl) rfl rfl ⟨(blk_cell hg10 0).trans rfl, (blk_cell hg10 1).trans rfl, (blk_cell hg10 2).trans rfl, (blk_cell hg10 3).trans rfl, (blk_cell hg10 4).trans rfl, (blk_cell hg10 5).trans rfl⟩ (fun hHeld => ?_)
        refine pure_ (i := 0) (N := some 60) (v := ?_) (a' := ?_) #[true, false, false, false, false, false, false, false, false, false] rfl rfl (by kernel_rfl) (fun _ _ _ h => h) (Or.inl ⟨by rfl, ?_⟩) ?_ ?_
        rotate_left
        · intro w'
          go_simp
          with_reducible rfl
        rotate_left
        · simp only [Act.put, List.setIfInBounds_toArray, List.set_cons_zero, List.set_cons_succ, i64_w, i32_w]
          rfl
        refine take_ (i := 1) (N := some 61) (v := ?_) (a' := ?_) #[true, true, false, false, false, false, false, false, false, false] rfl rfl (by kernel_rfl) (fun _ _ _ h => h) (Or.inl ⟨by rfl, ?_⟩) hHeld ?_ ?_
        rotate_left
        · rintro w' ⟨s0, s1, s2, s3, s4, s5⟩
          go_simp
          with_reducible rfl
        rotate_left
        · simp only [Act.put, List.setIfInBounds_toArray, List.set_cons_zero, List.set_cons_succ, i64_w, i32_w]
          rfl
        refine pure_ (i := 2) (N := some 62) (v := ?_) (a' := ?_) #[true, true, true, false, false, false, false, false, false, false] rfl rfl (by kernel_rfl) (fun _ _ _ h => h) (Or.inl ⟨by rfl, ?_⟩) ?_ ?_
        rotate_left
        · intro w'
          go_simp
          with_reducible rfl
        rotate_left
        · simp only [Act.put, List.setIfInBounds_toArray, List.set_cons_zero, List.set_cons_succ, i64_w, i32_w]
          rfl
        refine pure_ (i := 3) (N := some 63) (v := ?_) (a' := ?_) #[true, true, true, true, false, false, false, false, false, false] rfl rfl (by kernel_rfl) (fun _ _ _ h => h) (Or.inl ⟨by rfl, ?_⟩) ?_ ?_
        rotate_left
        · intro w'
          go_simp
          with_reducible rfl
        rotate_left
        · simp only [Act.put, List.setIfInBounds_toArray, List.set_cons_zero, List.set_cons_succ, i64_w, i32_w]
          rfl
        refine pure_ (i := 4) (N := some 64) (v := undef) (a' := ?_) #[true, true, true, true, true, false, false, false, false, false] rfl rfl (by kernel_rfl) (fun _ _ _ h => h) (Or.inr ⟨by rfl, rfl⟩) ?_ ?_
        rotate_left
        · simp only [Act.put, List.setIfInBounds_toArray, List.set_cons_zero, List.set_cons_succ, i64_w, i32_w]
          rfl
        refine pure_ (i := 5) (N := some 65) (v := undef) (a' := ?_) #[true, true, true, true, true, true, false, false, false, false] rfl rfl (by kernel_rfl) (fun _ _ _ h => h) (Or.inr ⟨by rfl, rfl⟩) ?_ ?_
        rotate_left
        · simp only [Act.put, List.setIfInBounds_toArray, List.set_cons_zero, List.set_cons_succ, i64_w, i32_w]
          rfl
        refine pure_ (i := 6) (N := some 66) (v := undef) (a' := ?_) #[true, true, true, true, true, true, true, false, false, false] rfl rfl (by kernel_rfl) (fun _ _ _ h => h) (Or.inr ⟨by rfl, rfl⟩) ?_ ?_
        rotate_left
        · simp only [Act.put, List.setIfInBounds_toArray, List.set_cons_zero, List.set_cons_succ, i64_w, i32_w]
          rfl
        refine pure_ (i := 7) (N := some 67) (v := undef) (a' := ?_) #[true, true, true, true, true, true, true, true, false, false] rfl rfl (by kernel_rfl) (fun _ _ _ h => h) (Or.inr ⟨by rfl, rfl⟩) ?_ ?_
        rotate_left
        · simp only [Act.put, List.setIfInBounds_toArray, List.set_cons_zero, List.set_cons_succ, i64_w, i32_w]
          rfl
        refine pure_ (i := 8) (N := some 68) (v := undef) (a' := ?_) #[true, true, true, true, true, true, true, true, true, false] rfl rfl (by kernel_rfl) (fun _ _ _ h => h) (Or.inr ⟨by rfl, rfl⟩) ?_ ?_
        rotate_left
        · simp only [Act.put, List.setIfInBounds_toArray, List.set_cons_zero, List.set_cons_succ, i64_w, i32_w]
          rfl
        refine pure_ (i := 9) (N := some 69) (v := ?_) (a' := ?_) #[true, true, true, true, true, true, true, true, true, true] rfl rfl (by kernel_rfl) (fun _ _ _ h => h) (Or.inl ⟨by rfl, ?_⟩) ?_ ?_
        rotate_left
        · intro w'
          go_simp
          with_reducible rfl
        rotate_left
        · simp only [Act.put, List.setIfInBounds_toArray, List.set_cons_zero, List.set_cons_succ, i64_w, i32_w]
          rfl
        refine done_ (by kernel_rfl) ?_
        
        have hdw : Below w10.heap.size w10 w10.drew := below_drew (Below.refl _ _)
        go_wp2_with (go_step3)
        go_roundw
        case rel => exact ⟨i + 1, fun k => ((Qf k ∧ k < wr.heap.size) ∨ wr.heap.size ≤ k) ∧ k < w6.heap.size, fun k => (Qs k ∧ k < wr.heap.size) ∨ w6.heap.size ≤ k, by omega, rfl, by rw [HN.out]; exact Fd_below hF10 hdw, by rw [HM.out]; exact Sm_below ⟨hs0, .inl hsQ, _, _, hg10, hR10, hV10⟩ hdw, fun k h1 h2 => h2.elim (fun y => h1.1.elim (fun x => hdis k x.1 y.1) (fun x => by omega)) (fun y => by omega), fun k h1 => h1.1.elim (fun x => hqf k x.1) (fun x => .inr (by omega)), fun k h1 => h1.elim (fun x => hqs k x.1) (fun x => .inr (by omega)), below_step hB10 hdw, kept_then hK10 (kept_below hdw (fun _ => False)) (fun k hk => hk) (fun k _ hk => hk.elim)⟩
        case measure => simp [intV]; omega
    · have hii : ¬ (i : Int) < (ls.length : Int) := by omega
      have hib : decide ((i : Int) < (ls.length : Int)) = false := decide_eq_false hii
      rw [List.take_of_length_le hge, HFLAT.out] at hF hS
      have hok := okF_run l0 fs0 okF0 hw
      have hokm := okM_run l0 m0 okM0 hw
      have h0 : fs0.taken = 0 := rfl
      have h00 : m0.all = 0 := rfl
      have htk : (l0.foldl fstep fs0).taken ≤ 1200 := by have := hok.2; omega
      have hal : (l0.foldl stepM m0).all ≤ 1200 := by have := hokm.2; omega
      have hhd := held_run l0 fs0 held0
      have hLL := hok.1.2.2.1
      have hcl := close03 (l0.foldl stepM m0) (by omega)
      have hma : closeV (l0.foldl stepM m0) = decW l0 := machine l0
      rw [hma] at hcl
      obtain ⟨K2, hK2⟩ := rsame_self (decW l0).1 (by have := dec_len l0; omega)
      have hK2 := hK2 K2 (Nat.le_refl _)
      have hclose := close_calls _ w.heap.size w wr _ hB hF hok.1.2.2.2 (by omega) (by omega) (by omega)
      rw [close_dec] at hclose
      clear hrows hok hokm hF hlwf h0 h00 hma htk hal hhd hLL
      generalize decW l0 = r at *
      obtain ⟨r1, r2⟩ := r
      simp only at hK2
      generalize l0.foldl fstep fs0 = s at *
      generalize l0.foldl stepM m0 = m at *
      go_upto_region 18 with (first | (go_at_call 15; refine hclose.mono ?_; rintro e w10 ⟨A9, c9, rfl, hc9, hC9, hF10, hB10, hK10⟩) | go_step3)
      have hS10 := Sm_kept hS hK10 (fun k hk hq => hdis k hq hk)
      clear hclose hF10 hS
      obtain ⟨hs0, hsQ, B0, d0, B4, d4, hg10, hR10, hV10⟩ := Sm_open hS10
      have hcl3 := lapidaryref03_Close.calls B0 d0 m.took m.last m.fin (m.all : Int) _ B4 d4 m.L m.e r1 r2 w10 (Kd.R_reads' hR10).2.2 (Kd.R_reads' hR10).2.1 hV10 hcl
      have q0 : w10.cell? ⟨w1.heap.size, 0, none⟩ = some (.slice B0 m.took.length d0) := (blk_cell hg10 0).trans rfl
      have q1 : w10.cell? ⟨w1.heap.size, 1, none⟩ = some (.int .i64 m.last) := (blk_cell hg10 1).trans rfl
      have q2 : w10.cell? ⟨w1.heap.size, 2, none⟩ = some (.bool m.fin) := (blk_cell hg10 2).trans rfl
      have q3 : w10.cell? ⟨w1.heap.size, 3, none⟩ = some (.int .i64 (m.all : Int)) := (blk_cell hg10 3).trans rfl
      have q4 : w10.cell? ⟨w1.heap.size, 4, none⟩ = some (.slice B4 m.L.length d4) := (blk_cell hg10 4).trans rfl
      have q5 : w10.cell? ⟨w1.heap.size, 5, none⟩ = some (.int .i64 m.e) := (blk_cell hg10 5).trans rfl
      clear hR10 hV10 hg10 hS10 hcl
      go_upto_region 19 with (first | (go_at_call 16; refine hcl3.mono ?_; rintro e w11 ⟨v11, rfl, hV11, hb11⟩) | go_step3)
      clear q0 q1 q2 q3 q4 q5 hcl3
      obtain ⟨A11, c11, e11⟩ := Kd.V_slice hV11
      subst e11
      have hv := Kd.V_reads' hV11
      have hB11 := below_step hB10 hb11
      have hsm := lapidaryref03_Same.calls K2 A9 c9 r1 A11 c11 r1 true w11 (Kd.C_below (Kd.F_now hC9) hb11) hc9 hv.2.2 hv.2.1 hK2
      go_wp2_with (first | (go_at_call 17; refine hsm.mono ?_; rintro e w12 ⟨rfl, ⟨nd, rfl⟩⟩) | (go_at_call 7; refine (hkn _).mono ?_; rintro e w13 ⟨rfl, hb13⟩) | go_step3)
      go_ret
      exact ⟨rfl, below_step (pw_below_drewN hB11 _) hb13⟩
end Go.Proofs.Ytglmfnaofpbpfaa.Hf

namespace Go.Proofs.Ytglmfnaofpbpfaa.P
open Go.RowKit Go.Proofs.YtglmfnaofpbpfaaW.PrintWords Go.Proofs.YtglmfnaofpbpfaaW.PrintLast Go.Proofs.YtglmfnaofpbpfaaW.PrintMore Go.Proofs.Ytglmfnaofpbpfaa.X
attribute [local go_sem] max2_int min2_int max_two min_two max_three min_three max_four min_four   -- for this text's walks alone
set_option linter.unusedVariables false
set_option linter.unusedSimpArgs false

/-! ### lapidarylaw04_FeedSteps: function 3 -/
def lapidarylaw04_FeedSteps.f (l0 : List Int) (l1 : List Int) : Option (Bool) := if (∀ x ∈ l0, 0 ≤ x ∧ x ≤ 255) ∧ (∀ x ∈ l1, 0 ≤ x ∧ x ≤ 255) then (some true) else (none)

set_option maxHeartbeats 8000000 in
set_option maxRecDepth 100000 in
theorem lapidarylaw04_FeedSteps.calls (A0 : Option Addr) (c0 : Nat) (l0 : List Int) (A1 : Option Addr) (c1 : Nat) (l1 : List Int) (r : Bool) (w : World) (hr0 : Kd.C (Kd.int .u8) w A0 l0.length l0) (hc0 : l0.length ≤ c0) (hr1 : Kd.C (Kd.int .u8) w A1 l1.length l1) (hc1 : l1.length ≤ c1) (h : lapidarylaw04_FeedSteps.f l0 l1 = some r) :
  Calls Try.prog 3 #[.slice A0 l0.length c0, .slice A1 l1.length c1] w fun e w' => e = .returned (.bool r) ∧ Below w.heap.size w w' := by
 unfold lapidarylaw04_FeedSteps.f at h
 by_cases hl : (∀ x ∈ l0, 0 ≤ x ∧ x ≤ 255) ∧ (∀ x ∈ l1, 0 ≤ x ∧ x ≤ 255)
 ·rw [if_pos hl] at h
  obtain rfl := Option.some.inj h
  exact Hf.steps_calls A0 A1 c0 c1 l0 l1 w hr0 hc0 hr1 hc1 hl.1 hl.2
 ·rw [if_neg hl] at h; cases h

end Go.Proofs.Ytglmfnaofpbpfaa.P

namespace Go.Proofs.Ytglmfnaofpbpfaa.Hf
set_option linter.unusedVariables false
set_option linter.unusedSimpArgs false
open Go Go.RowKit Go.Proofs.Ytglmfnaofpbpfaa.P Go.Proofs.Ytglmfnaofpbpfaa.C Go.Proofs.Ytglmfnaofpbpfaa.Fv Go.Proofs.YtglmfnaofpbpfaaW.PrintWords Go.Proofs.YtglmfnaofpbpfaaW.PrintLast Go.Proofs.YtglmfnaofpbpfaaW.PrintMore

theorem put_any1 (x6 : List Int) : ∀ (fuel n : Nat) (acc : List Int), n < 2 ^ (7 * fuel) → acc.length + fuel ≤ 1000 → ∃ P : List Int, Ev (fun k => vint_Put.l1 k acc (n : Int) x6 1 0) P ∧ P.length ≤ acc.length + fuel + 1 := by
  intro fuel
  induction fuel with
  | zero =>
    intro n acc hn ha
    have h0 : n = 0 := by simpa using hn
    subst h0
    refine ⟨acc ++ [0], ?_, by rw [List.length_append]; exact Nat.le_refl _⟩
    refine Ev.step (fun k => vint_Put.l1.eq_2 _ _ _ _ _ _) ?_
    simp only [if_neg (show ¬ (((0 : Nat) : Int) ≥ 128) by omega), if_pos (show acc.length < 140737488355328 by omega), w01]
    refine Ev.step (fun k => vint_Put.l0.eq_2 _ _ _ _ _) ?_
    simp only [Int.lt_irrefl, if_false]
    exact Ev.now _
  | succ fuel ih =>
    intro n acc hn ha
    by_cases h : n < 128
    · refine ⟨acc ++ [(n : Int) % 256], ?_, by rw [List.length_append]; show acc.length + 1 ≤ _; omega⟩
      refine Ev.step (fun k => vint_Put.l1.eq_2 _ _ _ _ _ _) ?_
      simp only [if_neg (show ¬ ((n : Int) ≥ 128) by omega), if_pos (show acc.length < 140737488355328 by omega), w01]
      refine Ev.step (fun k => vint_Put.l0.eq_2 _ _ _ _ _) ?_
      simp only [Int.lt_irrefl, if_false]
      exact Ev.now _
    · obtain ⟨P, hP, hl⟩ := ih (n / 128) (acc ++ [Go.bits .or .u8 ((n : Int) % 256) 128]) (by
        rw [show 7 * (fuel + 1) = 7 * fuel + 7 by omega, Nat.pow_add] at hn
        exact Nat.div_lt_of_lt_mul (by rw [Nat.mul_comm]; exact hn)) (by rw [List.length_append]; show acc.length + 1 + fuel ≤ _; omega)
      refine ⟨P, ?_, by rw [List.length_append] at hl; have : ([Go.bits .or .u8 ((n : Int) % 256) 128] : List Int).length = 1 := rfl; omega⟩
      refine Ev.step (fun k => vint_Put.l1.eq_2 _ _ _ _ _ _) ?_
      simp only [if_pos (show ((n : Int) ≥ 128) by omega), if_pos (show acc.length < 140737488355328 by omega)]
      rw [show (n : Int) / 128 = ((n / 128 : Nat) : Int) by omega]
      exact hP
theorem put_any (n : Nat) (h : n ≤ 1048576) : ∃ P : List Int, Ev (fun k => vint_Put.f k [IntKind.u64.wrap (n : Int)]) P ∧ P.length ≤ 11 := by
  rw [u64_small n (by omega)]
  obtain ⟨P, hP, hl⟩ := put_any1 [(n : Int)] 10 n [] (Nat.lt_of_le_of_lt h (by decide)) (by simp)
  refine ⟨P, ?_, by simpa using hl⟩
  unfold vint_Put.f
  show Ev (fun k => vint_Put.l0 k [] [(n : Int)] 1 0) P
  refine Ev.step (fun k => vint_Put.l0.eq_2 _ _ _ _ _) ?_
  simp only [if_pos (show (0 : Int) < 1 by omega), if_pos (show (0 : Int) ≤ 0 by omega), one_len, if_pos (show (0 : Int) < ((1 : Nat) : Int) by omega), show rd [(n : Int)] 0 = (n : Int) from rfl]
  exact hP
theorem one_any (k : Int) (B : List Int) (hl : B.length ≤ 1048576) : ∃ r : List Int × Int, Ev (fun n => frame_One.f n k B) r ∧ r.1.length ≤ B.length + 20 ∧ (r.2 = 0 → B.length + 5 ≤ r.1.length) := by
  unfold frame_One.f
  have hT : ∃ r : List Int × Int, Ev (fun n => frame_One.j0 n true k B) r ∧ r.1.length ≤ B.length + 20 ∧ (r.2 = 0 → B.length + 5 ≤ r.1.length) := ⟨([], 2), Ev.step (fun n => frame_One.j0.eq_2 _ _ _ _) (by simp only [if_true]; exact Ev.now _), Nat.zero_le _, fun h => by simp at h⟩
  have hF : ∃ r : List Int × Int, Ev (fun n => frame_One.j0 n false k B) r ∧ r.1.length ≤ B.length + 20 ∧ (r.2 = 0 → B.length + 5 ≤ r.1.length) := by
    obtain ⟨P, hP, hPl⟩ := put_any B.length hl
    refine ⟨((([k % 256] ++ P) ++ B) ++ C.fixL (C.ofV [([k % 256] ++ P) ++ B]).toNat 4, 0), ?_, ?_, ?_⟩
    · refine Ev.step (fun n => frame_One.j0.eq_2 _ _ _ _) ?_
      simp only [Bool.false_eq_true, if_false, if_neg (show ¬ ((B.length : Int) > 1048576) by omega)]
      refine Ev.bind (a := [k % 256]) (Ev.now _) ?_
      refine Ev.bind hP ?_
      simp only [one_len, if_pos (show 1 + P.length < 140737488355328 by omega)]
      refine Ev.bind (a := [k % 256] ++ P) (Ev.now _) ?_
      simp only [if_pos (show ([k % 256] ++ P).length + B.length < 140737488355328 by rw [List.length_append, one_len]; omega)]
      refine Ev.bind (a := (([k % 256] ++ P) ++ B) ++ C.fixL (C.ofV [([k % 256] ++ P) ++ B]).toNat 4) (by
        unfold crc_Seal.f
        rw [if_pos (by rw [List.length_append, List.length_append, one_len]; omega)]; exact Ev.now _) ?_
      exact Ev.now _
    · have : ∀ z, (C.fixL z 4).length = 4 := fun z => rfl
      simp only [List.length_append, one_len, this]
      omega
    · intro _
      have : ∀ z, (C.fixL z 4).length = 4 := fun z => rfl
      simp only [List.length_append, one_len, this]
      omega
  by_cases h1 : k < 1
  · simp only [if_pos h1]; exact hT
  · simp only [if_neg h1]
    cases decide (k > 9) with
    | true => exact hT
    | false => exact hF
def w5 : List Sec → Nat
  | [] => 0
  | s :: l => s.f1.length + 5 + w5 l
theorem w5_sz : ∀ l : List Sec, 5 * szL l ≤ 7 * w5 l
  | [] => Nat.le_refl _
  | s :: l => by have := w5_sz l; simp only [szL, w5]; omega
theorem w5_at : ∀ (l : List Sec) (s : Sec), s ∈ l → s.f1.length ≤ w5 l
  | x :: l, s, h => by
    rcases List.mem_cons.1 h with h | h
    · subst h; simp only [w5]; omega
    · have := w5_at l s h; simp only [w5]; omega
theorem enc_any0 (l : List Sec) (hw : ∀ s ∈ l, s.f1.length ≤ 1048576) (hlen : l.length ≤ 1048576) : ∀ (m i : Nat) (out : List Int) (q : Int) (r : Bool), i + m = l.length → out.length ≤ 2000000 * (i + 1) →
    ∃ R : List Int × Int, Ev (fun k => frame_Encode.l0 k out q r l (l.length : Int) (i : Int)) R ∧ (R.2 = 0 → out.length + w5 (l.drop i) ≤ R.1.length) := by
  intro m
  induction m with
  | zero =>
    intro i out q r hm ho
    have hd : l.drop i = [] := List.drop_eq_nil_of_le (by omega)
    have hol : out.length < 140737488355328 := by omega
    cases r with
    | false =>
      refine ⟨([], 2), Ev.step (fun k => frame_Encode.l0.eq_2 _ _ _ _ _ _ _) ?_, fun h => by simp at h⟩
      simp only [if_neg (show ¬ ((i : Int) < (l.length : Int)) by omega), if_pos hol]
      refine Ev.bind (a := out ++ [0]) (Ev.now _) ?_
      simp only [Bool.false_eq_true, if_false]
      exact Ev.now _
    | true =>
      by_cases hb : ((out ++ [0]).length : Int) > 1048576
      · refine ⟨([], 3), Ev.step (fun k => frame_Encode.l0.eq_2 _ _ _ _ _ _ _) ?_, fun h => by simp at h⟩
        simp only [if_neg (show ¬ ((i : Int) < (l.length : Int)) by omega), if_pos hol]
        refine Ev.bind (a := out ++ [0]) (Ev.now _) ?_
        simp only [if_true, if_pos hb]
        exact Ev.now _
      · refine ⟨(out ++ [0], 0), Ev.step (fun k => frame_Encode.l0.eq_2 _ _ _ _ _ _ _) ?_, fun _ => by rw [hd, List.length_append]; show _ + 0 ≤ _; omega⟩
        simp only [if_neg (show ¬ ((i : Int) < (l.length : Int)) by omega), if_pos hol]
        refine Ev.bind (a := out ++ [0]) (Ev.now _) ?_
        simp only [if_true, if_neg hb]
        exact Ev.now _
  | succ m ih =>
    intro i out q r hm ho
    have hil : i < l.length := by omega
    have hs := hw _ (List.getElem_mem hil)
    have hr := rdS l i hil
    have hd : w5 (l.drop i) = l[i].f1.length + 5 + w5 (l.drop (i + 1)) := by rw [List.drop_eq_getElem_cons hil]; rfl
    obtain ⟨R1, h1, h2, h3⟩ := one_any l[i].f0 l[i].f1 hs
    by_cases he : R1.2 = 0
    · have hlb := h3 he
      obtain ⟨R, hR, hR2⟩ := ih (i + 1) (out ++ R1.1) l[i].f0 (if r = true then decide (l[i].f0 > q) else false) (by omega) (by rw [List.length_append]; omega)
      refine ⟨R, Ev.step (fun k => frame_Encode.l0.eq_2 _ _ _ _ _ _ _) ?_, fun h => by have := hR2 h; rw [List.length_append] at this; omega⟩
      simp only [if_pos (show (i : Int) < (l.length : Int) by omega), if_pos (show (0 : Int) ≤ (i : Int) by omega), hr, nx i (by omega)]
      refine Ev.bind h1 ?_
      simp only [he, if_true, if_pos (show out.length + R1.1.length < 140737488355328 by omega)]
      cases r with
      | true => simpa using hR
      | false => simpa using hR
    · refine ⟨([], R1.2), Ev.step (fun k => frame_Encode.l0.eq_2 _ _ _ _ _ _ _) ?_, fun h => absurd h he⟩
      simp only [if_pos (show (i : Int) < (l.length : Int) by omega), if_pos (show (0 : Int) ≤ (i : Int) by omega), hr]
      refine Ev.bind h1 ?_
      simp only [if_neg he]
      exact Ev.now _
theorem enc_any (l : List Sec) (hw : ∀ s ∈ l, s.f1.length ≤ 1048576) (hlen : l.length ≤ 1048576) : ∃ R : List Int × Int, Ev (fun k => frame_Encode.f k l) R ∧ (R.2 = 0 → w5 l ≤ R.1.length) := by
  obtain ⟨R, h1, h2⟩ := enc_any0 l hw hlen l.length 0 hdB 0 true (by omega) (by show 5 ≤ _; omega)
  refine ⟨R, ?_, fun h => by have := h2 h; rw [List.drop_zero] at this; omega⟩
  unfold frame_Encode.f
  exact Ev.bind (a := hdB) (Ev.now _) h1
/-- What is written of sections, where it is no more than 1500 bytes. -/
theorem enc_law (l : List Sec) (hb : ∀ s ∈ l, ∀ c ∈ s.f1, 0 ≤ c ∧ c ≤ 255) (hw : ∀ s ∈ l, s.f1.length ≤ 1048576) (hlen : l.length ≤ 1048576) : ∃ R : List Int × Int, Ev (fun k => frame_Encode.f k l) R ∧ (R.2 = 0 → R.1.length ≤ 1500 → R.1 = encB l ∧ okL 0 l = true ∧ (∀ s ∈ l, wfS s)) := by
  by_cases hsz : szL l ≤ 100000 ∧ ∀ s ∈ l, s.f1.length ≤ 1900
  · refine ⟨encV l, enc_ev l (fun s hs => ⟨hb s hs, hsz.2 s hs⟩) hsz.1, ?_⟩
    intro h0 _
    unfold encV at h0 ⊢
    by_cases ho : okL 0 l = true
    · rw [if_pos ho]
      exact ⟨rfl, ho, fun s hs => ⟨hb s hs, hsz.2 s hs⟩⟩
    · rw [if_neg ho] at h0
      simp at h0
  · obtain ⟨R, hR, hR2⟩ := enc_any l hw hlen
    refine ⟨R, hR, fun h0 h1 => ?_⟩
    exfalso
    have hlow := hR2 h0
    refine hsz ⟨?_, fun s hs => ?_⟩
    · have := w5_sz l; omega
    · have := w5_at l s hs; omega
/-- What holds of a row of bytes that is fed, up to any place. -/
theorem good_pre : ∀ (l : List Int) (s : FS), (l.foldl fstep s).e = 0 → s.e = 0 ∧ (l.foldl fstep s).taken = s.taken + l.length
  | [], s, h => ⟨h, rfl⟩
  | c :: l, s, h => by
    have h1 := good_pre l (fstep s c) h
    have h2 : s.e = 0 := by
      by_cases he : s.e = 0
      · exact he
      · rw [show fstep s c = s from if_neg he] at h1
        exact h1.1
    have h3 : (fstep s c).taken = s.taken + 1 := by
      obtain ⟨took, last, taken, fin, closed, L, e⟩ := s
      simp only at h2
      subst h2
      unfold fstep beginV moreV
      simp only
      repeat' split
      all_goals first | rfl | (exfalso; simp_all; done)
    refine ⟨h2, ?_⟩
    rw [List.foldl_cons, h1.2, h3, List.length_cons]
    omega
theorem head_none : ∀ (l : List Int) (s : FS), s.took = [] ∧ s.L = [] → s.taken + l.length ≤ 5 → (l.foldl fstep s).took = [] ∧ (l.foldl fstep s).L = []
  | [], s, h, _ => h
  | c :: l, s, h, hl => by
    rw [List.length_cons] at hl
    have h2 : ((fstep s c).took = [] ∧ (fstep s c).L = []) := by
      obtain ⟨took, last, taken, fin, closed, L, e⟩ := s
      obtain ⟨h1, h2⟩ := h
      simp only at h1 h2 hl
      subst h1; subst h2
      unfold fstep beginV
      simp only
      repeat' split
      all_goals first | exact ⟨rfl, rfl⟩ | omega | (exfalso; simp_all; done)
    have h3 := taken_step s c
    exact head_none l _ h2 (by omega)
/-- What an archive's bytes leave behind. -/
theorem whole_held (l : List Sec) (ho : okL 0 l = true) (hw : ∀ s ∈ l, wfS s) : ((encB l).foldl fstep fs0).e = 0 ∧ heldF ((encB l).foldl fstep fs0) = sumB l := by
  have hc := close_dec (encB l)
  rw [dec_enc l ho hw] at hc
  have hs := sim_both (encB l)
  generalize (encB l).foldl fstep fs0 = s at *
  generalize (encB l).foldl stepM _ = m at *
  unfold closeF at hc
  by_cases he : s.e = 0
  · rw [if_pos he] at hc
    by_cases hf : s.fin = true
    · rw [if_pos hf] at hc
      obtain ⟨h1, h2, h3, h4, h5, h6, h7⟩ := hs
      have ht := h6 (by rw [← h5]; exact he) (by rw [← h2]; exact hf)
      refine ⟨he, ?_⟩
      unfold heldF
      rw [ht, (Prod.mk.inj hc).1]
      simp
    · rw [if_neg hf] at hc
      simp at hc
  · rw [if_neg he] at hc
    exact absurd (Prod.mk.inj hc).2 he
theorem encB_bytes (l : List Sec) (ho : okL 0 l = true) (hw : ∀ s ∈ l, wfS s) : ∀ c ∈ encB l, 0 ≤ c ∧ c ≤ 255 := by
  have hbw : ∀ l : List Sec, (∀ s ∈ l, wfS s) → ∀ q, okL q l = true → ∀ c ∈ bodyL l, 0 ≤ c ∧ c ≤ 255 := by
    intro l
    induction l with
    | nil => intro _ _ _ c hc; simp [bodyL] at hc
    | cons s l ih =>
      intro hw q ho c hc
      simp only [okL, Bool.and_eq_true, decide_eq_true_eq] at ho
      have hs := hw s (List.mem_cons_self)
      rw [bodyL] at hc
      rcases List.mem_append.1 hc with hc | hc
      · unfold secB at hc
        rcases List.mem_append.1 hc with hc | hc
        · exact pre_wf s.f0 s.f1 (by omega) hs.1 (by have := hs.2; omega) c hc
        · exact bytes4_wf _ c hc
      · exact ih (fun x hx => hw x (List.mem_cons_of_mem _ hx)) _ ho.2 c hc
  have hd : ∀ c ∈ hdB, 0 ≤ c ∧ c ≤ 255 := by decide
  intro c hc
  unfold encB at hc
  rcases List.mem_append.1 hc with hc | hc
  · rcases List.mem_append.1 hc with hc | hc
    · exact hd c hc
    · exact hbw l hw 0 ho c hc
  · simp at hc
    omega
end Go.Proofs.Ytglmfnaofpbpfaa.Hf
