/- A map's areas, told with its polygons in another order: the walk over the law, as far as the order is told. No condition. Written for this claim by a program of this session (a turned copy of the print): Go functions as Lean functions, and that the Go code comes to just these answers; or a statement proved out of them. No condition. Arguments that are structs, slices of structs, slices of slices: what their reading as data says of them, kind by kind, whatever the type. -/
import Derived.Test.YtbonkedecfjmdaaZ21
import Derived.Test.YtbonkedecfjmdaaZ23
import Derived.Test.YtbonkedecfjmdaaZ26
import Derived.Test.YtbonkedecfjmdaaZ9
import Derived.Test.YtbonkedecfjmdaaZ8
import Derived.Deep.QuietTactic
import Derived.BigQuiet
import Derived.Test.YtbonkedecfjmdaaZ2
import Derived.Test.YtbonkedecfjmdaaRows
import Derived.Test.YtbonkedecfjmdaaZ1
import Derived.Deep.Slices
import Derived.Deep.Fields
import Derived.ChangeSame
import Derived.ProofKit
import Derived.KernelRfl

namespace Go.Proofs.Ytbonkedecfjmdaa.Pl
set_option linter.unusedVariables false
set_option linter.unusedSimpArgs false
open Go Go.RowKit Go.Proofs.Ytbonkedecfjmdaa.P Go.Proofs.Ytbonkedecfjmdaa.G Go.Proofs.Ytbonkedecfjmdaa.WL Go.Proofs.YtbonkedecfjmdaaW.PrintWords Go.Proofs.YtbonkedecfjmdaaW.PrintLast Go.Proofs.YtbonkedecfjmdaaW.PrintMore

theorem known_ev : Ev (fun k => lapidarylaw17_known.f k) true := Ev.of (fun k => lapidarylaw17_known.mono k) (k := 60) (by decide +kernel)
theorem addA (m : List (List Pt)) (r q : List (List Int)) (hq : q.length ≤ 1000) (W : World) (E : Option Addr) (f : Nat) (hC : Kd.C k50 W E (outA m r q).length (outA m r q)) (hf : (outA m r q).length ≤ f) :
    Calls Try.prog 25 #[.agg #[.int .i64 (hiw 0), .int .u64 (low 0)], .slice E (outA m r q).length f] W fun e w' => e = .returned (.agg #[.int .i64 (hiw (0 + (q.map (polyA m r)).sum)), .int .u64 (low (0 + (q.map (polyA m r)).sum))]) ∧ Below W.heap.size W w' := by
  obtain ⟨KA, hKA⟩ := wAdds_ev 0 (q.map (polyA m r)) (by rw [List.length_map]; omega)
  exact wide_Add.calls KA (hiw 0) (low 0) E f (outA m r q) _ _ W hC hf (hKA KA (Nat.le_refl _))
theorem GE_sum {β : Type} {u v : List β} (f : β → Int) (h : u.Perm v) : (u.map f).sum = (v.map f).sum := perm_sum f h
set_option maxHeartbeats 8000000 in
set_option maxRecDepth 100000 in
theorem areaslaw_calls (A0 A1 A2 : Option Addr) (c0 c1 c2 : Nat) (m : List (List Pt)) (r p : List (List Int)) (at_ : Int) (w : World) (hr0 : Kd.C (Kd.slice 27 k27) w A0 m.length m) (hc0 : m.length ≤ c0) (hr1 : Kd.C (Kd.slice 3 (Kd.int .i64)) w A1 r.length r) (hc1 : r.length ≤ c1) (hr2 : Kd.C (Kd.slice 3 (Kd.int .i64)) w A2 p.length p) (hc2 : p.length ≤ c2)
    (hm : m.length ≤ 1048576 ∧ ∀ a ∈ m, a.length ≤ 1048576) (hr : r.length ≤ 1048576 ∧ ∀ a ∈ r, a.length ≤ 1048576) (hp : p.length ≤ 1048576 ∧ ∀ a ∈ p, a.length ≤ 1048576) (hrf : r.flatten.length ≤ 1048576) (hpf : p.flatten.length ≤ 1048576) (hwf : ∀ x ∈ r, ∀ n ∈ x, wf64 n) (ha0 : 0 ≤ at_) (ha1 : at_ ≤ 255) :
    Calls Try.prog 6 #[.agg #[.slice A0 m.length c0, .slice A1 r.length c1, .slice A2 p.length c2], .int .u8 at_] w fun e w' => e = .returned (.bool true) ∧ Below w.heap.size w w' := by
  have hu25 := Try.underlying25
  obtain ⟨K, hK⟩ := known_ev
  have hkn : ∀ W : World, Calls Try.prog 9 #[] W fun e w' => e = .returned (.bool true) ∧ Below W.heap.size W w' := fun W => lapidarylaw17_known.calls K true W (hK K (Nat.le_refl _))
  obtain ⟨la, KL, hKL⟩ := long_ev m r p hm.1 hr.1 hp.1
  have hlong := fun W (h : Below w.heap.size w W) => lapidarylaw17_long.calls KL A0 c0 m A1 c1 r A2 c2 p la W (Kd.C_below hr0 h) hc0 (Kd.C_below hr1 h) hc1 (Kd.C_below hr2 h) hc2 (hKL KL (Nat.le_refl _))
  have hareas : ∀ (W : World) (E0 E1 E2 : Option Addr) (f0 f1 f2 : Nat) (q : List (List Int)), q.length = p.length → q.flatten.length = p.flatten.length → Kd.C (Kd.slice 27 k27) W E0 m.length m → m.length ≤ f0 → Kd.C (Kd.slice 3 (Kd.int .i64)) W E1 r.length r → r.length ≤ f1 → Kd.C (Kd.slice 3 (Kd.int .i64)) W E2 q.length q → q.length ≤ f2 →
      Calls Try.prog 17 #[.agg #[.slice E0 m.length f0, .slice E1 r.length f1, .slice E2 q.length f2]] W fun e w' => ∃ v0_ : Value, e = .returned (.tuple #[v0_, .int .i64 (checkV m r q)]) ∧ Kd.R k50 50 w' W.heap.size (fun _ => True) v0_ (areasO m r q) ∧ Below W.heap.size W w' := by
    intro W E0 E1 E2 f0 f1 f2 q hq hqf q0 g0 q1 g1 q2 g2
    obtain ⟨KA, hKA⟩ := areas_ev m r q hm.1 hm.2 hr.1 hrf (by omega) (by omega) hwf
    exact plan_Areas.calls KA E0 f0 m E1 f1 r E2 f2 q _ _ W q0 g0 q1 g1 q2 g2 (hKA KA (Nat.le_refl _))
  have hcopy : ∀ W : World, Below w.heap.size w W → Calls Try.prog 23 #[.agg #[.slice A0 m.length c0, .slice A1 r.length c1, .slice A2 p.length c2]] W fun e w' => ∃ v0_ v1_ v2_ : Value, e = .returned (.agg #[v0_, v1_, v2_]) ∧ Kd.S (Kd.slice 27 k27) 31 w' W.heap.size (fun _ => True) v0_ m ∧ Kd.S (Kd.slice 3 (Kd.int .i64)) 32 w' W.heap.size (fun k_ => some k_ ≠ (v2_ : Value).ownBlock) v1_ r ∧ Kd.S (Kd.slice 3 (Kd.int .i64)) 32 w' W.heap.size (fun k_ => some k_ ≠ (v1_ : Value).ownBlock) v2_ p ∧ Below W.heap.size W w' := by
    intro W h
    obtain ⟨K3, hK3⟩ := copy_ev m r p hm hr hp
    exact ring_Copy.calls K3 A0 c0 m A1 c1 r A2 c2 p m r p W (Kd.C_below hr0 h) hc0 (Kd.C_below hr1 h) hc1 (Kd.C_below hr2 h) hc2 (hK3 K3 (Nat.le_refl _))
  have hA1 := fun W (h : Below w.heap.size w W) => hareas W A0 A1 A2 c0 c1 c2 p rfl rfl (Kd.C_below hr0 h) hc0 (Kd.C_below hr1 h) hc1 (Kd.C_below hr2 h) hc2
  have hcells : ∀ (g : Nat) (W0 W : World), W0.heap[g]? = some (.cells #[.slice A0 m.length c0, .slice A1 r.length c1, .slice A2 p.length c2] 25 (0, 0)) → Below W0.heap.size W0 W → W.cell? ⟨g, 0, none⟩ = some (.slice A0 m.length c0) ∧ W.cell? ⟨g, 1, none⟩ = some (.slice A1 r.length c1) ∧ W.cell? ⟨g, 2, none⟩ = some (.slice A2 p.length c2) :=
    fun g W0 W h hb => ⟨(blk_cell (blk_below h hb) 0).trans rfl, (blk_cell (blk_below h hb) 1).trans rfl, (blk_cell (blk_below h hb) 2).trans rfl⟩
  have hsz : checkV m r p = 0 → p.length ≤ 1000 := fun h => (checkV_sizes h).2.2.1
  have hO0 : checkV m r p = 0 → areasO m r p = outA m r p := fun h => if_pos h
  have hcT := fun k => checkV_turn m r p k
  generalize hev : checkV m r p = ev at *
  clear hev
  go_enter Try.func6, Try.ntmps6
  go_upto_region 1 with ((with_reducible refine gate_dst (N := 2) rfl ?_); refine box_event ?hg (N := 2) ?hd (cs := #[.slice A0 m.length c0, .slice A1 r.length c1, .slice A2 p.length c2]) (t := 25) ?hr ?_; (case hd => rfl); (case hg => rfl); (case hr => first | (go_simp; done) | (go_simp; rfl)); intro g1 hg w1 hbox1 hbw1; have hge1 : w.heap.size ≤ g1 := Nat.le_of_eq hg.symm; clear hg)
  obtain ⟨x0, x1, x2⟩ := hcells g1 w1 w1 hbox1 (Below.refl _ _)
  go_upto_region 2 with (go_at_call 17; refine (hA1 _ hbw1).mono ?_; rintro e w2 ⟨v, rfl, hR, hb2⟩; obtain ⟨Ea, fa, ea⟩ := Kd.R_slice hR; subst ea)
  have hB2 := below_step hbw1 hb2
  have hH2 := blk_below hbox1 hb2
  clear x0 x1 x2 hbox1 hbw1 hb2 hA1
  obtain ⟨x0, x1, x2⟩ := hcells g1 w2 w2 hH2 (Below.refl _ _)
  cases la with
  | true =>
    go_wp2_with (first | (go_at_call 9; refine (hkn _).mono ?_; rintro e w4 ⟨rfl, hb4⟩) | (go_at_call 7; refine (hlong _ hB2).mono ?_; rintro e w3 ⟨rfl, hb3⟩))
    go_ret
    exact ⟨rfl, below_step (below_step hB2 hb3) hb4⟩
  | false =>
    by_cases he : ev = 0
    · have heb : (ev != 0) = false := by rw [he]; rfl
      have hpl := hsz he
      simp only [hO0 he, outA_len] at hR ⊢
      have HE := Aside0.mk he
      clear hsz hO0 he
      by_cases hp0 : p.length = 0
      · have hpb : ((p.length : Int) == 0) = true := by rw [hp0]; rfl
        have HP0 := Aside0.mk hp0
        clear hp0
        go_wp2_with (first | (go_at_call 9; refine (hkn _).mono ?_; rintro e w4 ⟨rfl, hb4⟩) | (go_at_call 7; refine (hlong _ hB2).mono ?_; rintro e w3 ⟨rfl, hb3⟩; obtain ⟨y0, y1, y2⟩ := hcells g1 w2 w3 hH2 hb3))
        go_ret
        exact ⟨rfl, below_step (below_step hB2 hb3) hb4⟩
      · have hpb : ((p.length : Int) == 0) = false := beq_eq_false_iff_ne.mpr (by omega)
        obtain ⟨u, rfl⟩ := Int.eq_ofNat_of_zero_le ha0
        have hk : u % p.length < p.length := Nat.mod_lt _ (by omega)
        have hkr : (u : Int) % (p.length : Int) = ((u % p.length : Nat) : Int) := by omega
        generalize u % p.length = k at *
        go_upto_region 5 with (go_at_call 7; refine (hlong _ hB2).mono ?_; rintro e w3 ⟨rfl, hb3⟩; obtain ⟨y0, y1, y2⟩ := hcells g1 w2 w3 hH2 hb3)
        have hB3 := below_step hB2 hb3
        have hH3 := blk_below hH2 hb3
        have hR3 := Kd.R_below hR hb3
        have hg13 := blk_lt hH3
        clear x0 x1 x2 y0 y1 y2 hb3 hlong hB2 hH2 hR
        obtain ⟨x0, x1, x2⟩ := hcells g1 w3 w3 hH3 (Below.refl _ _)
        (try rw [hkr])
        go_upto_region 6 with (first | (go_at_call 23; refine (hcopy _ hB3).mono ?_; rintro e w6 ⟨v0, v1, v2, rfl, hS0, hS1, hS2, hb6⟩; obtain ⟨E0, f0, e0⟩ := Kd.S_slice hS0; subst e0; obtain ⟨E1, f1, e1⟩ := Kd.S_slice hS1; subst e1; obtain ⟨E2, f2, e2⟩ := Kd.S_slice hS2; subst e2) | ((with_reducible refine gate_dst (N := 8) rfl ?_); refine box_event ?hg (N := 8) ?hd (cs := #[.slice none 0 0, .slice none 0 0, .slice none 0 0]) (t := 25) ?hr ?_; (case hd => rfl); (case hg => rfl); (case hr => first | (go_simp; done) | (go_simp; rfl)); intro g3 hg w7 hbox3 hbw7; have hge3 : w6.heap.size ≤ g3 := Nat.le_of_eq hg.symm; clear hg; have hcz0 : w7.cell? ⟨g3, 0, none⟩ = some (.slice none 0 0) := (blk_cell hbox3 0).trans rfl; have hcz1 : w7.cell? ⟨g3, 1, none⟩ = some (.slice none 0 0) := (blk_cell hbox3 1).trans rfl; have hcz2 : w7.cell? ⟨g3, 2, none⟩ = some (.slice none 0 0) := (blk_cell hbox3 2).trans rfl; have hfz0 := blk_frozen hbox3 0; have hfz1 := blk_frozen hbox3 1; have hfz2 := blk_frozen hbox3 2))
        clear hcz0 hcz1 hcz2 hfz0 hfz1 hfz2 x0 x1 x2
        have hB6 := below_step hB3 hb6
        have hH6 := blk_below hH3 hb6
        have hR6 := Kd.R_below hR3 hb6
        have hg136 := blk_lt hH6
        have hCm := (Kd.R_reads' (Kd.S_R hS0)).2
        have hCr := (Kd.R_reads' (Kd.S_R hS1)).2
        clear hS0 hS1 hS2 hb6 hH3 hR3 hB3
        have hH7 := blk_below hH6 hbw7
        have hG8 := blk_put (cs' := #[.slice E0 m.length f0, .slice E1 r.length f1, .slice E2 p.length f2]) (blk_put (blk_put hbox3 0 (.slice E0 m.length f0) rfl) 1 (.slice E1 r.length f1) rfl) 2 (.slice E2 p.length f2) rfl
        have hB8 : Below w6.heap.size w6 (((w7.setCell ⟨g3, 0, none⟩ (.slice E0 m.length f0)).setCell ⟨g3, 1, none⟩ (.slice E1 r.length f1)).setCell ⟨g3, 2, none⟩ (.slice E2 p.length f2)) := below_set (below_set (below_set hbw7 hge3) hge3) hge3
        generalize ((w7.setCell ⟨g3, 0, none⟩ (.slice E0 m.length f0)).setCell ⟨g3, 1, none⟩ (.slice E1 r.length f1)).setCell ⟨g3, 2, none⟩ (.slice E2 p.length f2) = w7' at hG8 hB8 ⊢
        clear hbox3 hbw7 hH7
        have hcz2 : w7'.cell? ⟨g3, 2, none⟩ = some (.slice E2 p.length f2) := (blk_cell hG8 2).trans rfl
        have hfz2 := blk_frozen hG8 2
        go_upto_region 7 with (fail)
        clear hcz2 hfz2
        have hG8 := blk_put (cs' := #[.slice E0 m.length f0, .slice E1 r.length f1, .slice none 0 0]) hG8 2 (.slice none 0 0) rfl
        have hB8 := below_set (v := .slice none 0 0) (j := 2) hB8 hge3
        generalize w7'.setCell ⟨g3, 2, none⟩ (.slice none 0 0) = w8 at hG8 hB8 ⊢
        clear w7
        have hH8 := blk_below hH6 hB8
        have hne13 : g1 ≠ g3 := by omega
        obtain ⟨H, hHD, hHC⟩ := Hds.of_C (d := Kd.slice 3 (Kd.int .i64)) hr2
        have hHl : H.length = p.length := hHD.1
        have hHC' : (Kd.raw 1).C w A2 H.length H := by rw [hHl]; exact hHC
        have hki : (0 : Int) ≤ (k : Int) := by omega
        have hkp : (k : Int) ≤ (p.length : Int) := by omega
        have hkc : (k : Int) ≤ (c2 : Int) := by omega
        obtain ⟨i0, hi0, hzz⟩ := Option.map_eq_some_iff.1 info32
        have hsz0 : i0.size = 1 := by simp only [Prod.mk.injEq] at hzz; exact hzz.2.1
        have hBw8 := below_step hB6 hB8
        have hcut7 := cut_from (P := Try.prog) 23 32 .i64 Try.underlying23 hi0 1 hsz0 A2 p.length c2 (k : Int) hki hkp
        have hcut8 := cut_to (P := Try.prog) 23 32 .i64 Try.underlying23 hi0 A2 p.length c2 (k : Int) hki hkp hc2
        rw [Int.toNat_natCast] at hcut7 hcut8
        clear hzz hi0 hsz0
        have hdl7 : (H.drop k).length = p.length - k := by rw [List.length_drop, hHl]
        have hdl8 : (H.drop k ++ H.take k).length = p.length := by rw [List.length_append, List.length_drop, List.length_take, hHl]; omega
        have hG8d := blk_drew hG8
        have hH8d := blk_drew hH8
        have hB8d := below_drew1 hB8
        have hBw8d := below_drew1 hBw8
        have hraw7 : ReadsRow ((Kd.raw 1).K w) 1 w8.drew (if c2 = k then A2 else A2.map (·.add (k * 1))) (p.length - k) (H.drop k) := by
          have h := Kd.C_drop (m := k) (c := c2) (Kd.C_below hHC' hBw8d) (by omega) (by omega)
          rw [hdl7] at h
          exact h
        have hRaw7 := hraw7
        have hfr8 : ∀ k_, w8.drew.heap.size ≤ k_ → k_ ≠ g3 ∧ k_ ≠ g1 := fun k_ h_ => by have h1 := blk_lt hG8d; have h2 := blk_lt hH8d; omega
        have hl7 : (([] : List (List Value)).length + (p.length - k)) * 24 ≤ 140737488355328 := by simp only [List.length_nil]; omega
        generalize (if c2 = k then A2 else A2.map (·.add (k * 1))) = A9 at hcut7 hRaw7 hraw7
        --REGION7
        refine start_ (n := 9) (S := fun w' => w'.cell? ⟨g3, 2, none⟩ = some (.slice none 0 0) ∧ w'.cell? ⟨g1, 2, none⟩ = some (.slice A2 p.length c2)) (ds := [8]) #[false, false, false, false, false, false, false, false, false] (by kernel_rfl) rfl rfl ⟨(blk_cell hG8d 2).trans rfl, (blk_cell hH8d 2).trans rfl⟩ (fun hHeld => ?_)
        refine pure_ (i := 0) (N := some 39) (v := ?_) (a' := ?_) #[true, false, false, false, false, false, false, false, false] rfl rfl (by kernel_rfl) (fun _ _ _ h => h) (Or.inl ⟨by rfl, ?_⟩) ?_ ?_
        rotate_left
        · intro w'
          go_simp
          with_reducible rfl
        rotate_left
        · simp only [Act.put, List.setIfInBounds_toArray, List.set_cons_zero, List.set_cons_succ, i64_w, i32_w]
          rfl
        refine pure_ (i := 2) (N := some 41) (v := ?_) (a' := ?_) #[true, false, true, false, false, false, false, false, false] rfl rfl (by kernel_rfl) (fun _ _ _ h => h) (Or.inl ⟨by rfl, ?_⟩) ?_ ?_
        rotate_left
        · intro w'
          go_simp
          with_reducible rfl
        rotate_left
        · simp only [Act.put, List.setIfInBounds_toArray, List.set_cons_zero, List.set_cons_succ, i64_w, i32_w]
          rfl
        refine pure_ (i := 4) (N := some 43) (v := ?_) (a' := ?_) #[true, false, true, false, true, false, false, false, false] rfl rfl (by kernel_rfl) (fun _ _ _ h => h) (Or.inl ⟨by rfl, ?_⟩) ?_ ?_
        rotate_left
        · intro w'
          go_simp
          with_reducible rfl
        rotate_left
        · simp only [Act.put, List.setIfInBounds_toArray, List.set_cons_zero, List.set_cons_succ, i64_w, i32_w]
          rfl
        refine take_ (i := 1) (N := some 40) (v := ?_) (a' := ?_) #[true, true, true, false, true, false, false, false, false] rfl rfl (by kernel_rfl) (fun _ _ _ h => h) (Or.inl ⟨by rfl, ?_⟩) hHeld ?_ ?_
        rotate_left
        · rintro w' ⟨s0, s1⟩
          go_simp
          with_reducible rfl
        rotate_left
        · simp only [Act.put, List.setIfInBounds_toArray, List.set_cons_zero, List.set_cons_succ, i64_w, i32_w]
          rfl
        refine take_ (i := 3) (N := some 42) (v := ?_) (a' := ?_) #[true, true, true, true, true, false, false, false, false] rfl rfl (by kernel_rfl) (fun _ _ _ h => h) (Or.inl ⟨by rfl, ?_⟩) hHeld ?_ ?_
        rotate_left
        · rintro w' ⟨s0, s1⟩
          go_simp
          with_reducible rfl
        rotate_left
        · simp only [Act.put, List.setIfInBounds_toArray, List.set_cons_zero, List.set_cons_succ, i64_w, i32_w]
          rfl
        refine pure_ (i := 5) (N := some 44) (v := ?_) (a' := ?_) #[true, true, true, true, true, true, false, false, false] rfl rfl (by kernel_rfl) (fun _ _ _ h => h) (Or.inl ⟨by rfl, ?_⟩) ?_ ?_
        rotate_left
        · intro w'
          go_simp
          with_reducible rfl
        rotate_left
        · simp only [Act.put, List.setIfInBounds_toArray, List.set_cons_zero, List.set_cons_succ, i64_w, i32_w]
          rfl
        refine one_ (i := 6) (N := some 45) #[true, true, true, true, true, true, true, false, false] rfl rfl (by kernel_rfl) (by decide) (fun K hK => ?_)
        refine Kd.R_append_rows_step (Kd.raw 1) (w0 := w6) w6.heap.size rfl (.tmp 40) (.tmp 44) 23 32 (.slice none 0 0) 24 rfl Try.underlying23 info32 rfl (by decide) (by omega) (.slice none 0 0) ([] : List (List Value)) (H.drop k) _ _ _ (fun k_ => k_ ≠ g3 ∧ k_ ≠ g1) (fun _ => False) rfl rfl (Kd.R_nil _ _ _ _ _) hRaw7 (fun _ _ h => h) (fun _ h => h.elim) hfr8 hB8d hB8d.size hl7 ?_
        rw [List.nil_append]
        intro v7 w9 hR7 hb7 hg7 hat7
        obtain ⟨A7, c7, e7⟩ := Kd.R_slice hR7
        subst e7
        rw [hdl7] at hR7
        have hG9 := blk_grown hG8d hg7 (by simp [Value.ownBlock])
        have hH9 := blk_grown hH8d hg7 (by simp [Value.ownBlock])
        refine hK.out _ _ ⟨(blk_cell hG9 2).trans rfl, (blk_cell hH9 2).trans rfl⟩ (fun hHeld => ?_)
        clear hK K
        refine norm_ (a' := ?_) ?_ ?_
        rotate_left
        · show Act.put _ (some 45) _ = _
          simp only [Act.put, List.setIfInBounds_toArray, List.set_cons_zero, List.set_cons_succ, i64_w, i32_w]
          rfl
        refine pure_ (i := 7) (N := some 46) (v := ?_) (a' := ?_) #[true, true, true, true, true, true, true, true, false] rfl rfl (by kernel_rfl) (fun _ _ _ h => h) (Or.inl ⟨by rfl, ?_⟩) ?_ ?_
        rotate_left
        · intro w'
          go_simp
          with_reducible rfl
        rotate_left
        · simp only [Act.put, List.setIfInBounds_toArray, List.set_cons_zero, List.set_cons_succ, i64_w, i32_w]
          rfl
        refine last_ (i := 8) (N := none) #[true, true, true, true, true, true, true, true, true] rfl rfl (by kernel_rfl) (by decide) (fun K hK => ?_)
        have hcs9 : w9.cell? ⟨g3, 2, none⟩ = some (.slice none 0 0) := (blk_cell hG9 2).trans rfl
        have hfs9 := blk_frozen hG9 2
        refine skip_ (w1 := ?_) (by rfl) rfl ?_ ?_
        rotate_left
        · go_simp
          rfl
        refine hK.out _ _ ?_
        clear hK K
        refine done_ (by kernel_rfl) ?_
        
        --END7
        have hG10 := blk_put (cs' := #[.slice E0 m.length f0, .slice E1 r.length f1, .slice A7 (p.length - k) c7]) hG9 2 (.slice A7 (p.length - k) c7) rfl
        have hB10 := below_set (v := .slice A7 (p.length - k) c7) (j := 2) hb7 hge3
        have hR10 := Kd.R_far (p := ⟨g3, 2, none⟩) hR7 (fun k_ hk_ => hk_.1) (.slice A7 (p.length - k) c7)
        have hH10 := blk_far (p := ⟨g3, 2, none⟩) hH9 hne13 (.slice A7 (p.length - k) c7)
        generalize w9.setCell ⟨g3, 2, none⟩ (.slice A7 (p.length - k) c7) = w10 at hG10 hB10 hR10 hH10 ⊢
        clear hG9 hH9 hb7 hg7 hat7 hR7 hRaw7 hraw7 hcut7 hG8d hH8d hB8d hBw8d hfr8 hl7 hG8 hB8 hH8 hBw8
        have hBw10d := below_drew1 (below_step hB6 hB10)
        have hG10d := blk_drew hG10
        have hH10d := blk_drew hH10
        have hB10d := below_drew1 hB10
        have hR10d := Kd.R_drew hR10
        have hRaw8 : ReadsRow ((Kd.raw 1).K w) 1 w10.drew A2 k (H.take k) := by
          have h := Kd.C_take (m := k) (Kd.C_below hHC' hBw10d) (by omega)
          rw [show (H.take k).length = k by rw [List.length_take, hHl]; omega] at h
          exact h
        have hfr10 : ∀ k_, w10.drew.heap.size ≤ k_ → k_ ≠ g3 ∧ k_ ≠ g1 := fun k_ h_ => by have h1 := blk_lt hG10d; have h2 := blk_lt hH10d; omega
        have hl8 : ((H.drop k).length + k) * 24 ≤ 140737488355328 := by rw [hdl7]; omega
        go_upto_region 8 with (fail)
        --REGION8
        refine start_ (n := 9) (S := fun w' => w'.cell? ⟨g3, 2, none⟩ = some (.slice A7 (p.length - k) c7) ∧ w'.cell? ⟨g1, 2, none⟩ = some (.slice A2 p.length c2)) (ds := [8]) #[false, false, false, false, false, false, false, false, false] (by kernel_rfl) rfl rfl ⟨(blk_cell hG10d 2).trans rfl, (blk_cell hH10d 2).trans rfl⟩ (fun hHeld => ?_)
        refine pure_ (i := 0) (N := some 47) (v := ?_) (a' := ?_) #[true, false, false, false, false, false, false, false, false] rfl rfl (by kernel_rfl) (fun _ _ _ h => h) (Or.inl ⟨by rfl, ?_⟩) ?_ ?_
        rotate_left
        · intro w'
          go_simp
          with_reducible rfl
        rotate_left
        · simp only [Act.put, List.setIfInBounds_toArray, List.set_cons_zero, List.set_cons_succ, i64_w, i32_w]
          rfl
        refine pure_ (i := 2) (N := some 49) (v := ?_) (a' := ?_) #[true, false, true, false, false, false, false, false, false] rfl rfl (by kernel_rfl) (fun _ _ _ h => h) (Or.inl ⟨by rfl, ?_⟩) ?_ ?_
        rotate_left
        · intro w'
          go_simp
          with_reducible rfl
        rotate_left
        · simp only [Act.put, List.setIfInBounds_toArray, List.set_cons_zero, List.set_cons_succ, i64_w, i32_w]
          rfl
        refine pure_ (i := 4) (N := some 51) (v := ?_) (a' := ?_) #[true, false, true, false, true, false, false, false, false] rfl rfl (by kernel_rfl) (fun _ _ _ h => h) (Or.inl ⟨by rfl, ?_⟩) ?_ ?_
        rotate_left
        · intro w'
          go_simp
          with_reducible rfl
        rotate_left
        · simp only [Act.put, List.setIfInBounds_toArray, List.set_cons_zero, List.set_cons_succ, i64_w, i32_w]
          rfl
        refine take_ (i := 1) (N := some 48) (v := ?_) (a' := ?_) #[true, true, true, false, true, false, false, false, false] rfl rfl (by kernel_rfl) (fun _ _ _ h => h) (Or.inl ⟨by rfl, ?_⟩) hHeld ?_ ?_
        rotate_left
        · rintro w' ⟨s0, s1⟩
          go_simp
          with_reducible rfl
        rotate_left
        · simp only [Act.put, List.setIfInBounds_toArray, List.set_cons_zero, List.set_cons_succ, i64_w, i32_w]
          rfl
        refine take_ (i := 3) (N := some 50) (v := ?_) (a' := ?_) #[true, true, true, true, true, false, false, false, false] rfl rfl (by kernel_rfl) (fun _ _ _ h => h) (Or.inl ⟨by rfl, ?_⟩) hHeld ?_ ?_
        rotate_left
        · rintro w' ⟨s0, s1⟩
          go_simp
          with_reducible rfl
        rotate_left
        · simp only [Act.put, List.setIfInBounds_toArray, List.set_cons_zero, List.set_cons_succ, i64_w, i32_w]
          rfl
        refine pure_ (i := 5) (N := some 52) (v := ?_) (a' := ?_) #[true, true, true, true, true, true, false, false, false] rfl rfl (by kernel_rfl) (fun _ _ _ h => h) (Or.inl ⟨by rfl, ?_⟩) ?_ ?_
        rotate_left
        · intro w'
          go_simp
          with_reducible rfl
        rotate_left
        · simp only [Act.put, List.setIfInBounds_toArray, List.set_cons_zero, List.set_cons_succ, i64_w, i32_w]
          rfl
        refine one_ (i := 6) (N := some 53) #[true, true, true, true, true, true, true, false, false] rfl rfl (by kernel_rfl) (by decide) (fun K hK => ?_)
        refine Kd.R_append_rows_step (Kd.raw 1) (w0 := w6) w6.heap.size rfl (.tmp 48) (.tmp 52) 23 32 (.slice none 0 0) 24 rfl Try.underlying23 info32 rfl (by decide) (by omega) (.slice A7 (p.length - k) c7) (H.drop k) (H.take k) _ _ _ (fun k_ => k_ ≠ g3 ∧ k_ ≠ g1) (fun _ => False) rfl rfl hR10d hRaw8 (fun _ _ h => h) (fun _ h => h.elim) hfr10 hB10d hB10d.size hl8 ?_
        intro v8 w11 hR8 hb8 hg8 hat8
        obtain ⟨A8, c8, e8⟩ := Kd.R_slice hR8
        subst e8
        rw [hdl8] at hR8
        have hG11 := blk_grown hG10d hg8 (fun e_ => (hR10d.1 g3 e_.symm).1 rfl)
        have hH11 := blk_grown hH10d hg8 (fun e_ => (hR10d.1 g1 e_.symm).2 rfl)
        refine hK.out _ _ ⟨(blk_cell hG11 2).trans rfl, (blk_cell hH11 2).trans rfl⟩ (fun hHeld => ?_)
        clear hK K
        refine norm_ (a' := ?_) ?_ ?_
        rotate_left
        · show Act.put _ (some 53) _ = _
          simp only [Act.put, List.setIfInBounds_toArray, List.set_cons_zero, List.set_cons_succ, i64_w, i32_w]
          rfl
        refine pure_ (i := 7) (N := some 54) (v := ?_) (a' := ?_) #[true, true, true, true, true, true, true, true, false] rfl rfl (by kernel_rfl) (fun _ _ _ h => h) (Or.inl ⟨by rfl, ?_⟩) ?_ ?_
        rotate_left
        · intro w'
          go_simp
          with_reducible rfl
        rotate_left
        · simp only [Act.put, List.setIfInBounds_toArray, List.set_cons_zero, List.set_cons_succ, i64_w, i32_w]
          rfl
        refine last_ (i := 8) (N := none) #[true, true, true, true, true, true, true, true, true] rfl rfl (by kernel_rfl) (by decide) (fun K hK => ?_)
        have hcs11 : w11.cell? ⟨g3, 2, none⟩ = some (.slice A7 (p.length - k) c7) := (blk_cell hG11 2).trans rfl
        have hfs11 := blk_frozen hG11 2
        refine skip_ (w1 := ?_) (by rfl) rfl ?_ ?_
        rotate_left
        · go_simp
          rfl
        refine hK.out _ _ ?_
        clear hK K
        refine done_ (by kernel_rfl) ?_
        
        --END8
        have hG12 := blk_put (cs' := #[.slice E0 m.length f0, .slice E1 r.length f1, .slice A8 p.length c8]) hG11 2 (.slice A8 p.length c8) rfl
        have hB12 := below_set (v := .slice A8 p.length c8) (j := 2) hb8 hge3
        have hR12 := Kd.R_far (p := ⟨g3, 2, none⟩) hR8 (fun k_ hk_ => hk_.1) (.slice A8 p.length c8)
        have hH12 := blk_far (p := ⟨g3, 2, none⟩) hH11 hne13 (.slice A8 p.length c8)
        generalize w11.setCell ⟨g3, 2, none⟩ (.slice A8 p.length c8) = w12 at hG12 hB12 hR12 hH12 ⊢
        clear hG11 hH11 hb8 hg8 hat8 hR8 hRaw8 hcut8 hG10d hH10d hB10d hBw10d hfr10 hl8 hG10 hB10 hH10 hR10 hR10d
        have hBw12 := below_step hB6 hB12
        have hTD : Hds (Kd.slice 3 (Kd.int .i64)) w12 (turnL p k) (H.drop k ++ H.take k) := ((hHD.drop k).append (hHD.take k)).below hBw12
        have hC12 := (Kd.R_reads' hR12).2
        have hC12' : (Kd.raw 1).C w12 A8 (H.drop k ++ H.take k).length (H.drop k ++ H.take k) := hC12.2
        have hTl : p.length = (turnL p k).length := (turnL_len p k).symm
        have hCT := Hds.to_C hTD hC12.2
        have hA2 := hareas w12 E0 E1 A8 f0 f1 c8 (turnL p k) (turnL_len p k) (turnL_flat_len p k) (Kd.C_below hCm.2 hB12) hCm.1 (Kd.C_below hCr.2 hB12) hCr.1 hCT (by rw [← hTl]; exact hC12.1)
        have hOT : areasO m r (turnL p k) = outA m r (turnL p k) := if_pos ((hcT k).trans HE.out)
        rw [hcT k, hOT, turnL_len] at hA2
        have hRw12 := Kd.R_below hR6 hB12
        have z0 : w12.cell? ⟨g3, 0, none⟩ = some (.slice E0 m.length f0) := (blk_cell hG12 0).trans rfl
        have z1 : w12.cell? ⟨g3, 1, none⟩ = some (.slice E1 r.length f1) := (blk_cell hG12 1).trans rfl
        have z2 : w12.cell? ⟨g3, 2, none⟩ = some (.slice A8 p.length c8) := (blk_cell hG12 2).trans rfl
        clear hTD hC12 hTl hCT hareas hR12 hHD hHC hHC' hHl hcopy hCm hCr hR6 hOT hcT
        go_upto_region 10 with (go_at_call 17; refine hA2.mono ?_; rintro e w13 ⟨v13, rfl, hRb, hb13⟩; obtain ⟨Eb, fb, eb⟩ := Kd.R_slice hRb; subst eb)
        have hTO : outA m r (turnL p k) = (outA m r p).drop k ++ (outA m r p).take k := by unfold outA turnL; rw [List.map_append, List.map_append, List.map_drop, List.map_drop, List.map_take, List.map_take]
        have hperm : ((turnL p k).map (polyA m r)).sum = (p.map (polyA m r)).sum := GE_sum (polyA m r) (turnL_perm p k)
        have hadd1 := addA m r p (by omega)
        have hadd2 := addA m r (turnL p k) (by rw [turnL_len]; omega)
        rw [hperm] at hadd2
        simp only [outA_len, turnL_len] at hadd1 hadd2 hRb ⊢
        generalize 0 + (p.map (polyA m r)).sum = s at hadd1 hadd2
        have hLa : (outA m r p).length = p.length := outA_len m r p
        have hLb : (outA m r (turnL p k)).length = p.length := by rw [outA_len, turnL_len]
        have hab : ∀ i, i < p.length → (outA m r (turnL p k))[i]? = (outA m r p)[(i + k) % p.length]? := fun i hi => by
          rw [hTO, turn_get k (by omega) i (by omega), hLa]
        have hRa := Kd.R_below hRw12 hb13
        have hBw13 := below_step hBw12 hb13
        have hH13 := blk_below hH12 hb13
        clear hTO hperm hA2 hRw12 hb13 hBw12 hH12 z0 z1 z2 hG12
        generalize outA m r (turnL p k) = Lb at hadd2 hRb hLb hab
        generalize outA m r p = La at hadd1 hRa hLa hab
        have hof := fun W => wide_Of.calls 0 (hiw 0) (low 0) W (wOf_eq (by omega) (by omega))
        have hsg := fun W => wide_Sign.calls (hiw s) (low s) (cmp3 (off s) (off 0)) W (wSign_eq s)
        generalize hiw 0 = o0 at hof hadd1 hadd2
        generalize low 0 = o1 at hof hadd1 hadd2
        generalize cmp3 (off s) (off 0) = sg at hsg
        generalize hiw s = s0 at hsg hadd1 hadd2
        generalize low s = s1 at hsg hadd1 hadd2
        obtain ⟨x0, x1, x2⟩ := hcells g1 w13 w13 hH13 (Below.refl _ _)
        have hfin1 := fun W (h : Below w13.heap.size w13 W) => hadd1 W Ea fa (by rw [← hLa]; exact Kd.C_below (Kd.R_reads' hRa).2.2 h) (Kd.R_reads' hRa).2.1
        have hfin2 := fun W (h : Below w13.heap.size w13 W) => hadd2 W Eb fb (by rw [← hLb]; exact Kd.C_below (Kd.R_reads' hRb).2.2 h) (Kd.R_reads' hRb).2.1
        clear hadd1 hadd2
        have hCa := (Kd.R_reads' hRa).2.2
        have hCb := (Kd.R_reads' hRb).2.2
        rw [hLa] at hCa
        rw [hLb] at hCb
        have HAB := Aside0.mk hab
        have HLA := Aside0.mk hLa
        have HLB := Aside0.mk hLb
        clear hab hLa hLb hRa hRb hkr hH13 hr0 hr1 hr2 hc0 hc1 hc2 hm hr hp hrf hpf hwf hcells
        generalize p.length = n at *
        go_wp2_with (fail)
        clear x0 x1 x2
        go_loopw [11] (fun v wr => ∃ i : Nat, i ≤ n ∧ v = .int .i64 i ∧ Below w13.heap.size w13 wr) (fun v _ => n - (intV v).toNat)
        case atStart => exact ⟨0, by omega, rfl, Below.refl _ _⟩
        case round =>
          obtain ⟨i, hi, rfl, hBr⟩ := hrel
          rcases Nat.lt_or_ge i n with hlt | hge
          · have hii : (i : Int) < (n : Int) := by omega
            have hi0 : (0 : Int) ≤ (i : Int) := by omega
            have hib : decide ((i : Int) < (n : Int)) = true := decide_eq_true hii
            have hjl : (i + k) % n < n := Nat.mod_lt _ (by omega)
            have hji : (((i + k) % n : Nat) : Int) < (n : Int) := by omega
            have hj0 : (0 : Int) ≤ (((i + k) % n : Nat) : Int) := by first | omega | (rw [Int.natCast_emod, Int.natCast_add])
            have hjr : ((i : Int) + (k : Int)) % (n : Int) = (((i + k) % n : Nat) : Int) := by first | omega | (rw [Int.natCast_emod, Int.natCast_add])
            obtain ⟨adb, eEb, b0, b1⟩ := at_T50 (Kd.C_below hCb hBr) (i : Int) hi0 hii
            obtain ⟨ada, eEa, a0, a1⟩ := at_T50 (Kd.C_below hCa hBr) (((i + k) % n : Nat) : Int) hj0 hji
            have hrd : rd_T50 Lb (i : Int) = rd_T50 La (((i + k) % n : Nat) : Int) := by
              unfold rd_T50
              rw [Int.toNat_natCast, Int.toNat_natCast, List.getD_eq_getElem?_getD, List.getD_eq_getElem?_getD, HAB.out i hlt]
            rw [hrd] at b0 b1
            subst eEb
            subst eEa
            rw [Int.toNat_natCast] at b0 b1 a0 a1
            generalize rd_T50 La (((i + k) % n : Nat) : Int) = x at *
            have HJR := Aside0.mk hjr
            generalize (i + k) % n = j at *
            clear hrd
            go_wp2_with (fail)
            go_quiet (fail)
            go_wp2
            go_roundw
            case rel => exact ⟨i + 1, by omega, rfl, pw_below_drewN hBr _⟩
            case measure => simp [intV]; omega
          · have hii : ¬ (i : Int) < (n : Int) := by omega
            have hib : decide ((i : Int) < (n : Int)) = false := decide_eq_false hii
            have hBx := below_step hBw13 hBr
            have hBy := hBr
            clear hBr
            go_wp2_with (first | (go_at_call 26; refine (hof _).mono ?_; rintro e w14 ⟨rfl, hb14⟩; have hBx := below_step hBx hb14; have hBy := below_step hBy hb14; clear hb14) | (go_at_call 25; (with_reducible refine (hfin1 _ hBy).mono ?_); rintro e w14 ⟨rfl, hb14⟩; have hBx := below_step hBx hb14; have hBy := below_step hBy hb14; clear hb14) | (go_at_call 25; (with_reducible refine (hfin2 _ hBy).mono ?_); rintro e w14 ⟨rfl, hb14⟩; have hBx := below_step hBx hb14; have hBy := below_step hBy hb14; clear hb14) | (go_at_call 24; refine (hsg _).mono ?_; rintro e w14 ⟨rfl, hb14⟩; have hBx := below_step hBx hb14; have hBy := below_step hBy hb14; clear hb14) | (go_at_call 9; refine (hkn _).mono ?_; rintro e w14 ⟨rfl, hb14⟩; have hBx := below_step hBx hb14; clear hb14))
            go_ret
            exact ⟨rfl, hBx⟩
    · have heb : (ev != 0) = true := bne_iff_ne.mpr he
      clear he
      go_wp2_with (first | (go_at_call 9; refine (hkn _).mono ?_; rintro e w4 ⟨rfl, hb4⟩) | (go_at_call 7; refine (hlong _ hB2).mono ?_; rintro e w3 ⟨rfl, hb3⟩; obtain ⟨y0, y1, y2⟩ := hcells g1 w2 w3 hH2 hb3))
      go_ret
      exact ⟨rfl, below_step (below_step hB2 hb3) hb4⟩
end Go.Proofs.Ytbonkedecfjmdaa.Pl

namespace Go.Proofs.Ytbonkedecfjmdaa.P
open Go.RowKit Go.Proofs.YtbonkedecfjmdaaW.PrintWords Go.Proofs.YtbonkedecfjmdaaW.PrintLast Go.Proofs.YtbonkedecfjmdaaW.PrintMore Go.Proofs.Ytbonkedecfjmdaa.X
attribute [local go_sem] max2_int min2_int max_two min_two max_three min_three max_four min_four add64_0 add64_1 add64   -- for this text's walks alone
set_option linter.unusedVariables false
set_option linter.unusedSimpArgs false

/-! ### lapidarylaw17_PlanAreas: function 6 -/
def lapidarylaw17_PlanAreas.f (l0_0 : List (List (S27))) (l0_1 : List (List Int)) (l0_2 : List (List Int)) (a1 : Int) : Option (Bool) := if (l0_0.length ≤ 1048576 ∧ ∀ a ∈ l0_0, a.length ≤ 1048576) ∧ (l0_1.length ≤ 1048576 ∧ ∀ a ∈ l0_1, a.length ≤ 1048576) ∧ (l0_2.length ≤ 1048576 ∧ ∀ a ∈ l0_2, a.length ≤ 1048576) ∧ l0_1.flatten.length ≤ 1048576 ∧ l0_2.flatten.length ≤ 1048576 ∧ (∀ x ∈ l0_1, ∀ n ∈ x, -9223372036854775808 ≤ n ∧ n ≤ 9223372036854775807) ∧ 0 ≤ a1 ∧ a1 ≤ 255 then (some true) else (none)

set_option maxHeartbeats 8000000 in
set_option maxRecDepth 100000 in
theorem lapidarylaw17_PlanAreas.calls (A0_0 : Option Addr) (c0_0 : Nat) (l0_0 : List (List (S27))) (A0_1 : Option Addr) (c0_1 : Nat) (l0_1 : List (List Int)) (A0_2 : Option Addr) (c0_2 : Nat) (l0_2 : List (List Int)) (a1 : Int) (r : Bool) (w : World) (hr0_0 : Kd.C (Kd.slice 27 k27) w A0_0 l0_0.length l0_0) (hc0_0 : l0_0.length ≤ c0_0) (hr0_1 : Kd.C (Kd.slice 3 (Kd.int .i64)) w A0_1 l0_1.length l0_1) (hc0_1 : l0_1.length ≤ c0_1) (hr0_2 : Kd.C (Kd.slice 3 (Kd.int .i64)) w A0_2 l0_2.length l0_2) (hc0_2 : l0_2.length ≤ c0_2) (h : lapidarylaw17_PlanAreas.f l0_0 l0_1 l0_2 a1 = some r) :
  Calls Try.prog 6 #[.agg #[.slice A0_0 l0_0.length c0_0, .slice A0_1 l0_1.length c0_1, .slice A0_2 l0_2.length c0_2], .int .u8 a1] w fun e w' => e = .returned (.bool r) ∧ Below w.heap.size w w' := by
 unfold lapidarylaw17_PlanAreas.f at h
 by_cases hl : (l0_0.length ≤ 1048576 ∧ ∀ a ∈ l0_0, a.length ≤ 1048576) ∧ (l0_1.length ≤ 1048576 ∧ ∀ a ∈ l0_1, a.length ≤ 1048576) ∧ (l0_2.length ≤ 1048576 ∧ ∀ a ∈ l0_2, a.length ≤ 1048576) ∧ l0_1.flatten.length ≤ 1048576 ∧ l0_2.flatten.length ≤ 1048576 ∧ (∀ x ∈ l0_1, ∀ n ∈ x, -9223372036854775808 ≤ n ∧ n ≤ 9223372036854775807) ∧ 0 ≤ a1 ∧ a1 ≤ 255
 ·rw [if_pos hl] at h
  obtain rfl := Option.some.inj h
  exact Pl.areaslaw_calls A0_0 A0_1 A0_2 c0_0 c0_1 c0_2 l0_0 l0_1 l0_2 a1 w hr0_0 hc0_0 hr0_1 hc0_1 hr0_2 hc0_2 hl.1 hl.2.1 hl.2.2.1 hl.2.2.2.1 hl.2.2.2.2.1 hl.2.2.2.2.2.1 hl.2.2.2.2.2.2.1 hl.2.2.2.2.2.2.2
 ·rw [if_neg hl] at h; cases h

end Go.Proofs.Ytbonkedecfjmdaa.P

namespace Go.Proofs.Ytbonkedecfjmdaa.O
set_option linter.unusedVariables false
set_option linter.unusedSimpArgs false
open Go.RowKit Go.Deep Go.ChangeShapes Go.WideShapes Go.Proofs.YtbonkedecfjmdaaW.PrintWords

/-- Whatever is read at type t is of the kind d, and fine; 'mu': how much it holds. -/
def Opens {α : Type} (P : Program) (t : TypeId) (d : Kd α) (ok : α → Prop) (mu : α → Nat) : Prop :=
  ∀ (H : Type) (enc : TypeId × Value → H) (w : World) (fuel : Nat) (cs : List Value) (x : DataW H × List MemPlace),
    DataW.trod enc P w 0 (fun _ => true) true fuel t cs = some x → ∃ y : α, d.K w y cs ∧ ok y ∧ mu y ≤ Rows.uptoBulk x.1

theorem bulk_one {H : Type} (d : DataW H) : 1 ≤ Rows.uptoBulk d := by
  cases d with
  | lit l => cases l <;> simp [Rows.uptoBulk]
  | _ => simp [Rows.uptoBulk]
theorem opens_int {P : Program} {t : TypeId} {k : IntKind} (ht : P.underlying t = some (.int k)) : Opens P t (Kd.int k) (fun n => (Lit.int k n).wf = true) (fun _ => 1) := by
  intro H enc w fuel cs x h
  obtain ⟨n, rfl, rfl, hw⟩ := DataW.trod_int ht h
  exact ⟨n, rfl, hw, bulk_one _⟩
theorem bulk_range {H : Type} (D : Nat → DataW H) (m : Nat → Nat) : ∀ n, (∀ i, i < n → m i ≤ Rows.uptoBulk (D i)) → ((List.range n).map m).sum ≤ Rows.uptoBulkAll ((List.range n).map D) := by
  have app : ∀ l r : List (DataW H), Rows.uptoBulkAll (l ++ r) = Rows.uptoBulkAll l + Rows.uptoBulkAll r := by
    intro l r
    induction l with
    | nil => simp [Rows.uptoBulkAll]
    | cons x l ih => simp only [List.cons_append, Rows.uptoBulkAll, ih]; omega
  intro n
  induction n with
  | zero => intro _; simp
  | succ n ih =>
    intro h
    have h1 := ih fun i hi => h i (by omega)
    have h2 := h n (by omega)
    rw [List.range_succ, List.map_append, List.map_append, app, List.sum_append]
    simp only [List.map_cons, List.map_nil, List.sum_cons, List.sum_nil, Rows.uptoBulkAll]
    omega
theorem opens_slice {α : Type} [Inhabited α] {P : Program} {t e : TypeId} {d : Kd α} {ok : α → Prop} {mu : α → Nat} (ht : P.underlying t = some (.slice e)) (hs : d.sz = P.cellsOf e) (h : Opens P e d ok mu) :
    Opens P t (Kd.slice e d) (fun l => l.length ≤ maxLen ∧ ∀ x ∈ l, ok x) (fun l => 1 + (l.map mu).sum) := by
  intro H enc w fuel cs x hx
  rcases open_slice ht hx with ⟨rfl, rfl⟩ | ⟨a, len, cap, m, n, D, Pl, rfl, hb, hl, hm, hmm, rfl, hi⟩
  · exact ⟨[], ⟨none, 0, rfl, Nat.le_refl _, rfl, by simp, fun h0 => absurd h0 (by simp)⟩, ⟨by simp, by simp⟩, by simpa using bulk_one _⟩
  · have hle : len ≤ m := by simp at hmm; omega
    obtain ⟨f, hf⟩ := choose_lt (α := α) (n := len) (p := fun i y => ∃ cs', w.cells? 0 (a.add (i * P.cellsOf e)) (P.cellsOf e) = some cs' ∧ d.K w y cs' ∧ ok y ∧ mu y ≤ Rows.uptoBulk (D i)) (fun i hil => by
      obtain ⟨cs', hc, hy⟩ := hi i (by omega)
      obtain ⟨y, hK, ho, hmu⟩ := h H enc w n cs' _ hy
      exact ⟨y, cs', hc, hK, ho, hmu⟩)
    refine ⟨(List.range len).map f, ⟨some a, cap, by simp, by simpa using hl, by simp, by have : maxLen ≤ 9223372036854775807 := by unfold maxLen; omega
                                                                                          simp; omega, fun h0 => ⟨a, rfl, fun j p hj => ?_⟩⟩, ⟨by simp; omega, fun x hx => ?_⟩, ?_⟩
    · rw [List.getElem?_map] at hj
      have hjl : j < len := by
        by_cases hjl : j < len
        · exact hjl
        · rw [List.getElem?_eq_none (by simp; omega)] at hj; simp at hj
      rw [List.getElem?_range hjl] at hj
      simp only [Option.map_some, Option.some.injEq] at hj
      subst hj
      obtain ⟨cs', hc, hK, ho, hmu⟩ := hf j hjl
      obtain ⟨_, hlen, hat⟩ := World.cells?_some hc
      refine ⟨cs', by rw [hs]; exact hlen, hK, fun i u hu => ?_⟩
      have hil : i < P.cellsOf e := by
        have := (List.getElem?_eq_some_iff.1 hu).1; omega
      rw [hs, ← Go.Deep.add_add, hat i hil, hu]
    · simp only [List.mem_map, List.mem_range] at hx
      obtain ⟨i, hil, rfl⟩ := hx
      obtain ⟨_, _, _, ho, _⟩ := hf i hil
      exact ho
    · have := bulk_range D (fun i => mu (f i)) len fun i hil => (hf i hil).choose_spec.2.2.2
      simp only [List.map_map, Rows.uptoBulk]
      have e1 : (List.range len).map (mu ∘ f) = (List.range len).map fun i => mu (f i) := rfl
      rw [e1]
      omega
theorem opens_struct3 {α β γ δ : Type} {P : Program} {t : TypeId} {f0 f1 f2 : Field} {d0 : Kd α} {d1 : Kd β} {d2 : Kd γ} {ok0 : α → Prop} {ok1 : β → Prop} {ok2 : γ → Prop} {mu0 : α → Nat} {mu1 : β → Nat} {mu2 : γ → Nat}
    (hs : P.underlying t = some (.struct #[f0, f1, f2])) (hone : oneCellFields P #[f0, f1, f2] = true) (hC : P.cellsOf t = 3) (h0 : Opens P f0.type d0 ok0 mu0) (h1 : Opens P f1.type d1 ok1 mu1) (h2 : Opens P f2.type d2 ok2 mu2)
    (mk : α → β → γ → δ) (d : Kd δ) (hd : ∀ w y0 y1 y2 c0 c1 c2, d0.K w y0 [c0] → d1.K w y1 [c1] → d2.K w y2 [c2] → d.K w (mk y0 y1 y2) [c0, c1, c2])
    (ok : δ → Prop) (hok : ∀ y0 y1 y2, ok0 y0 → ok1 y1 → ok2 y2 → ok (mk y0 y1 y2)) (mu : δ → Nat) (hmu : ∀ y0 y1 y2, mu (mk y0 y1 y2) ≤ 1 + mu0 y0 + mu1 y1 + mu2 y2) : Opens P t d ok mu := by
  intro H enc w fuel cs x hx
  obtain ⟨xs, n, _, rfl, hcl, hlen, hg⟩ := DataW.trod_struct hs hx
  rw [hC] at hcl
  match cs, hcl with
  | [c0, c1, c2], _ =>
    obtain ⟨o0, k0⟩ := hone_of hone 0 f0 rfl
    obtain ⟨o1, k1⟩ := hone_of hone 1 f1 rfl
    obtain ⟨o2, k2⟩ := hone_of hone 2 f2 rfl
    match xs, hlen with
    | [y0, y1, y2], _ =>
      have g0 : DataW.trod enc P w 0 (fun _ => true) true n f0.type [c0] = some y0 := by simpa [o0, k0] using hg 0 f0 rfl
      have g1 : DataW.trod enc P w 0 (fun _ => true) true n f1.type [c1] = some y1 := by simpa [o1, k1] using hg 1 f1 rfl
      have g2 : DataW.trod enc P w 0 (fun _ => true) true n f2.type [c2] = some y2 := by simpa [o2, k2] using hg 2 f2 rfl
      obtain ⟨z0, K0, O0, M0⟩ := h0 H enc w n _ _ g0
      obtain ⟨z1, K1, O1, M1⟩ := h1 H enc w n _ _ g1
      obtain ⟨z2, K2, O2, M2⟩ := h2 H enc w n _ _ g2
      refine ⟨mk z0 z1 z2, hd w _ _ _ _ _ _ K0 K1 K2, hok _ _ _ O0 O1 O2, Nat.le_trans (hmu _ _ _) ?_⟩
      simp only [List.map_cons, List.map_nil, Rows.uptoBulk, Rows.uptoBulkAll]
      omega
theorem opens_struct2 {α β δ : Type} {P : Program} {t : TypeId} {f0 f1 : Field} {d0 : Kd α} {d1 : Kd β} {ok0 : α → Prop} {ok1 : β → Prop} {mu0 : α → Nat} {mu1 : β → Nat}
    (hs : P.underlying t = some (.struct #[f0, f1])) (hone : oneCellFields P #[f0, f1] = true) (hC : P.cellsOf t = 2) (h0 : Opens P f0.type d0 ok0 mu0) (h1 : Opens P f1.type d1 ok1 mu1)
    (mk : α → β → δ) (d : Kd δ) (hd : ∀ w y0 y1 c0 c1, d0.K w y0 [c0] → d1.K w y1 [c1] → d.K w (mk y0 y1) [c0, c1])
    (ok : δ → Prop) (hok : ∀ y0 y1, ok0 y0 → ok1 y1 → ok (mk y0 y1)) (mu : δ → Nat) (hmu : ∀ y0 y1, mu (mk y0 y1) ≤ 1 + mu0 y0 + mu1 y1) : Opens P t d ok mu := by
  intro H enc w fuel cs x hx
  obtain ⟨xs, n, _, rfl, hcl, hlen, hg⟩ := DataW.trod_struct hs hx
  rw [hC] at hcl
  match cs, hcl with
  | [c0, c1], _ =>
    obtain ⟨o0, k0⟩ := hone_of hone 0 f0 rfl
    obtain ⟨o1, k1⟩ := hone_of hone 1 f1 rfl
    match xs, hlen with
    | [y0, y1], _ =>
      have g0 : DataW.trod enc P w 0 (fun _ => true) true n f0.type [c0] = some y0 := by simpa [o0, k0] using hg 0 f0 rfl
      have g1 : DataW.trod enc P w 0 (fun _ => true) true n f1.type [c1] = some y1 := by simpa [o1, k1] using hg 1 f1 rfl
      obtain ⟨z0, K0, O0, M0⟩ := h0 H enc w n _ _ g0
      obtain ⟨z1, K1, O1, M1⟩ := h1 H enc w n _ _ g1
      refine ⟨mk z0 z1, hd w _ _ _ _ K0 K1, hok _ _ O0 O1, Nat.le_trans (hmu _ _) ?_⟩
      simp only [List.map_cons, List.map_nil, Rows.uptoBulk, Rows.uptoBulkAll]
      omega
end Go.Proofs.Ytbonkedecfjmdaa.O

namespace Go.Proofs.Ytbonkedecfjmdaa.P
open Go.RowKit Go.Proofs.Ytbonkedecfjmdaa.O Go.Proofs.YtbonkedecfjmdaaW.PrintWords Go.Proofs.YtbonkedecfjmdaaW.PrintLast
instance inh27 : Inhabited S27 := ⟨z27⟩
def ok27 (x : S27) : Prop := (fun n => (Lit.int .i64 n).wf = true) x.f0 ∧ (fun n => (Lit.int .i64 n).wf = true) x.f1 ∧ (fun n => (Lit.int .i64 n).wf = true) x.f2
def mu27 (x : S27) : Nat := 1 + (fun _ => 1) x.f0 + (fun _ => 1) x.f1 + (fun _ => 1) x.f2
theorem op27 : Opens Try.prog 27 k27 ok27 mu27 :=
  opens_struct3 Try.underlying27 (by kernel_rfl) (by kernel_rfl) (opens_int Try.underlying3) (opens_int Try.underlying3) (opens_int Try.underlying3) (fun a b c => ⟨a, b, c⟩) k27 (fun w y0 y1 y2 c0 c1 c2 h0 h1 h2 => ⟨[c0], [c1, c2], rfl, h0, ⟨[c1], [c2], rfl, h1, h2⟩⟩) ok27 (fun _ _ _ a b c => ⟨a, b, c⟩) mu27 (fun _ _ _ => Nat.le_refl _)
instance inh25 : Inhabited S25 := ⟨z25⟩
def ok25 (x : S25) : Prop := (fun l => l.length ≤ maxLen ∧ ∀ x ∈ l, (fun l => l.length ≤ maxLen ∧ ∀ x ∈ l, ok27 x) x) x.f0 ∧ (fun l => l.length ≤ maxLen ∧ ∀ x ∈ l, (fun l => l.length ≤ maxLen ∧ ∀ x ∈ l, (fun n => (Lit.int .i64 n).wf = true) x) x) x.f1 ∧ (fun l => l.length ≤ maxLen ∧ ∀ x ∈ l, (fun l => l.length ≤ maxLen ∧ ∀ x ∈ l, (fun n => (Lit.int .i64 n).wf = true) x) x) x.f2
def mu25 (x : S25) : Nat := 1 + (fun l => 1 + (l.map (fun l => 1 + (l.map mu27).sum)).sum) x.f0 + (fun l => 1 + (l.map (fun l => 1 + (l.map (fun _ => 1)).sum)).sum) x.f1 + (fun l => 1 + (l.map (fun l => 1 + (l.map (fun _ => 1)).sum)).sum) x.f2
theorem op25 : Opens Try.prog 25 k25 ok25 mu25 :=
  opens_struct3 Try.underlying25 (by kernel_rfl) (by kernel_rfl) (opens_slice (e := 31) Try.underlying22 (by kernel_rfl) (opens_slice (e := 27) Try.underlying31 (by kernel_rfl) op27)) (opens_slice (e := 32) Try.underlying23 (by kernel_rfl) (opens_slice (e := 3) Try.underlying32 (by kernel_rfl) (opens_int Try.underlying3))) (opens_slice (e := 32) Try.underlying23 (by kernel_rfl) (opens_slice (e := 3) Try.underlying32 (by kernel_rfl) (opens_int Try.underlying3))) (fun a b c => ⟨a, b, c⟩) k25 (fun w y0 y1 y2 c0 c1 c2 h0 h1 h2 => ⟨[c0], [c1, c2], rfl, h0, ⟨[c1], [c2], rfl, h1, h2⟩⟩) ok25 (fun _ _ _ a b c => ⟨a, b, c⟩) mu25 (fun _ _ _ => Nat.le_refl _)
end Go.Proofs.Ytbonkedecfjmdaa.P
