/- more: a byte of a section. No condition. The feeder's way, byte by byte, is the document's machine. No condition. Feed: chunks. No condition. Feed: the walk. No condition. Held: what is held. No condition. -/
import Derived.Test.YtglmfnaofpbpfaaZ3
import Derived.Test.YtglmfnaofpbpfaaZ4
import Derived.Test.YtglmfnaofpbpfaaZ13
import Derived.WalkMore

namespace Go.Proofs.Ytglmfnaofpbpfaa.Hf
set_option linter.unusedVariables false
set_option linter.unusedSimpArgs false
open Go Go.RowKit Go.Proofs.Ytglmfnaofpbpfaa.P Go.Proofs.Ytglmfnaofpbpfaa.C Go.Proofs.Ytglmfnaofpbpfaa.Fv Go.Proofs.YtglmfnaofpbpfaaW.PrintWords Go.Proofs.YtglmfnaofpbpfaaW.PrintLast Go.Proofs.YtglmfnaofpbpfaaW.PrintMore

def moreV (s : FS) (c : Int) : FS × Int :=
  let t := s.took ++ [c]
  let g := gv (t.drop 1) 0 0
  if g.2.2 = 10 then ({ s with took := t }, 0) else if g.2.2 ≠ 0 then ({ s with took := t }, g.2.2) else if g.1 > 1048576 then ({ s with took := t }, 3)
  else if t.length < 1 + g.2.1 + g.1 + 4 then ({ s with took := t }, 0)
  else if (chkV t).2 = 0 then ({ s with took := [], last := t.getD 0 0, L := s.L ++ [⟨t.getD 0 0, (chkV t).1.drop (1 + g.2.1)⟩] }, 0)
  else ({ s with took := t }, (chkV t).2)

set_option maxHeartbeats 8000000 in
set_option maxRecDepth 100000 in
theorem more_calls (P : Nat → Prop) (g : Nat) (w0 w : World) (s : FS) (c : Int) (hB : Below w0.heap.size w0 w) (h : Fd P w0.heap.size g w s) (hc : 0 ≤ c ∧ c ≤ 255) (htw : ∀ x ∈ s.took, 0 ≤ x ∧ x ≤ 255) (htk : s.took.length ≤ 1000000) (hpos : 1 ≤ s.took.length) (hLl : s.L.length ≤ 1000000) :
    Calls Try.prog 21 #[.pointer (some ⟨g, 0, none⟩), .int .u8 c] w fun e w' => e = .returned (.int .i64 (moreV s c).2) ∧ Fd (fun k => P k ∨ w.heap.size ≤ k) w0.heap.size g w' (moreV s c).1 ∧ Below w0.heap.size w0 w' ∧ Kept w w' P := by
  have hu := Try.underlying51
  obtain ⟨took, last, taken, fin, closed, L, er⟩ := s
  simp only at htw htk hpos hLl
  have htw2 : ∀ x ∈ took ++ [c], 0 ≤ x ∧ x ≤ 255 := by
    intro x hx
    rcases List.mem_append.1 hx with hx | hx
    · exact htw x hx
    · simp at hx; subst hx; exact hc
  have hlen2 : (took ++ [c]).length = took.length + 1 := by rw [List.length_append, one_len]
  obtain ⟨Kg, hKg⟩ := get_ev (took ++ [c]) htw2 (by omega) 1 (by omega)
  have hKg := hKg Kg (Nat.le_refl _)
  obtain ⟨Kc, hKc⟩ := check_ev (took ++ [c]) htw2 (by omega)
  have hKc := hKc Kc (Nat.le_refl _)
  have hge := gv_err ((took ++ [c]).drop 1) 0 0
  have hgl := gv_len ((took ++ [c]).drop 1) 0 0
  rw [List.length_drop, hlen2] at hgl
  have hbv : moreV ⟨took, last, taken, fin, closed, L, er⟩ c = if (gv ((took ++ [c]).drop 1) 0 0).2.2 = 10 then (⟨took ++ [c], last, taken, fin, closed, L, er⟩, 0) else if (gv ((took ++ [c]).drop 1) 0 0).2.2 ≠ 0 then (⟨took ++ [c], last, taken, fin, closed, L, er⟩, (gv ((took ++ [c]).drop 1) 0 0).2.2) else if (gv ((took ++ [c]).drop 1) 0 0).1 > 1048576 then (⟨took ++ [c], last, taken, fin, closed, L, er⟩, 3)
    else if (took ++ [c]).length < 1 + (gv ((took ++ [c]).drop 1) 0 0).2.1 + (gv ((took ++ [c]).drop 1) 0 0).1 + 4 then (⟨took ++ [c], last, taken, fin, closed, L, er⟩, 0)
    else if (chkV (took ++ [c])).2 = 0 then (⟨[], (took ++ [c]).getD 0 0, taken, fin, closed, L ++ [⟨(took ++ [c]).getD 0 0, (chkV (took ++ [c])).1.drop (1 + (gv ((took ++ [c]).drop 1) 0 0).2.1)⟩], er⟩, 0)
    else (⟨took ++ [c], last, taken, fin, closed, L, er⟩, (chkV (took ++ [c])).2) := rfl
  obtain ⟨hgw, hPg, vt, vl, hgc, hR, hN⟩ := h
  have x0 : w.cell? ⟨g, 0, none⟩ = some vt := (blk_cell hgc 0).trans rfl
  have hgne := Kd.R_ne hR hgc (by decide)
  have hlk : (took.length + 1) * 1 ≤ 140737488355328 := by omega
  have hglt : g < w.heap.size := (Array.getElem?_eq_some_iff.1 hgc).1
  have hfr : ∀ k, w.heap.size ≤ k → (P k ∨ w.heap.size ≤ k) ∧ k ≠ g ∧ some k ≠ vl.ownBlock := fun k hk => ⟨.inr hk, by omega, fun e => by have := Kd.N_lt hN k e.symm; omega⟩
  have hRm : Kd.R (Kd.int .u8) 5 w w0.heap.size (fun k => (P k ∨ w.heap.size ≤ k) ∧ k ≠ g ∧ some k ≠ vl.ownBlock) vt took := Kd.R_mono hR (fun k hk => ⟨.inl hk.1.1, hk.1.2, hk.2⟩)
  have hPr : ∀ k, vt.ownBlock = some k → P k ∨ w.heap.size ≤ k := fun k hk => .inl (hR.1 k hk).1.1
  have HBV := Aside0.mk hbv
  clear hbv
  generalize hT : took ++ [c] = T at *
  go_enter Try.func21, Try.ntmps21
  go_upto_region 2 with (first | ((with_reducible refine gate_builtin (b := .append) (xs := #[.tmp 13, .tmp 15]) rfl ?_); at_builtin; refine Kd.R_append (Kd.int .u8) (w0 := w0) w0.heap.size rfl (.tmp 13) (.tmp 15) 22 5 (.int .u8 0) 1 rfl Try.underlying22 info5 rfl (by decide) (by omega) vt took c [.int .u8 c] (fun k => (P k ∨ w.heap.size ≤ k) ∧ k ≠ g ∧ some k ≠ vl.ownBlock) (fun _ => False) rfl rfl ?aP (fun _ hk => hk.elim) ?aF ?aO ?aB ?aS ?aL ?_; (case aP => exact rfl); (case aF => exact hfr); (case aO => exact hRm); (case aB => exact hB); (case aS => exact hB.size); (case aL => exact hlk); intro v2 w2 ho hb2 hg2 hat2; have hgc2 := blk_grown hgc hg2 hgne; have hN2 := Kd.N_after hN hg2 hat2; have hK2 := Kept.of_grown hg2 (Kept.refl w P) hPr; have hsz2 := hg2.size; obtain ⟨A2, c2, e2⟩ := Kd.R_slice ho; subst e2; rw [hT] at ho hN2; rw [hlen2] at ho hN2; have y0 : w2.cell? ⟨g, 0, none⟩ = some vt := (blk_cell hgc2 0).trans rfl; have yf := blk_frozen hgc2 0; clear hgc x0 hat2 hg2 hRm hR hN hfr hPr))
  have hH := blk_set hgc2 0 (.slice A2 (took.length + 1) c2)
  have hR3 := Kd.R_far (p := ⟨g, 0, none⟩) ho (fun _ hk => hk.2.1) (.slice A2 (took.length + 1) c2)
  have hN3 := Kd.N_far (p := ⟨g, 0, none⟩) hN2 (fun _ hk => hk.1.2) (.slice A2 (took.length + 1) c2)
  have hB3 : Below w0.heap.size w0 (w2.setCell ⟨g, 0, none⟩ (.slice A2 (took.length + 1) c2)) := below_set hb2 hgw
  have hK3 : Kept w (w2.setCell ⟨g, 0, none⟩ (.slice A2 (took.length + 1) c2)) P := Kept.setCell hK2 (.inl hPg) _
  clear y0 yf hgc2 ho hN2 hb2 hK2 hgne
  generalize w2.setCell ⟨g, 0, none⟩ (.slice A2 (took.length + 1) c2) = w3 at hH hR3 hN3 hB3 hK3 ⊢
  have hF3 : Fd (fun k => P k ∨ w.heap.size ≤ k) w0.heap.size g w3 ⟨T, last, taken, fin, closed, L, er⟩ := ⟨hgw, .inl hPg, .slice A2 (took.length + 1) c2, vl, hH, Kd.R_mono hR3 (fun k hk => ⟨⟨hk.1, hk.2.1⟩, hk.2.2⟩), Kd.N_mono hN3 (fun k hk => ⟨⟨.inl hk.1.1, hk.1.2⟩, hk.2⟩)⟩
  have y0 : w3.cell? ⟨g, 0, none⟩ = some (.slice A2 (took.length + 1) c2) := (blk_cell hH 0).trans rfl
  have hrd := Kd.R_reads' hR3
  have hget := fun r1 r2 r3 hk => vint_Get.calls Kg A2 c2 T ((1 : Nat) : Int) r1 r2 r3 w3 hrd.2.2 (by rw [hlen2]; exact hrd.2.1) hk
  rw [hlen2] at hget
  have HRD := Aside0.mk hrd
  have HL2 := Aside0.mk hlen2
  have HT := Aside0.mk hT
  clear hrd hlen2 hT
  generalize hgg : gv (T.drop 1) 0 0 = gg at *
  obtain ⟨n, m, e⟩ := gg
  simp only at hge hgl
  have hbv := HBV.out
  clear HBV
  simp only at hbv
  by_cases he : e = 0
  · subst he
    have hm := hgl (by omega)
    have hget := hget (n : Int) ((1 + m : Nat) : Int) 0 (hKg.trans (congrArg some (gR_ok _ _ _)))
    rw [show (((1 : Nat) : Int)) = 1 from rfl] at hget
    rw [if_neg (by omega), if_neg (by simp)] at hbv
    clear hge hgl hKg hgg
    have hml : m ≤ took.length := by omega
    have hm0 : 0 < m := hm.1
    clear hm
    by_cases hn : n > 1048576
    · rw [if_pos hn] at hbv
      have HBV := Aside0.mk hbv
      have hni : (n : Int) > 1048576 := by omega
      clear hbv hKc
      go_wp2_with (go_at_call 27; refine hget.mono ?_; rintro e w4 ⟨rfl, ⟨nd, rfl⟩⟩)
      go_ret
      rw [HBV.out]
      exact ⟨rfl, Fd_below hF3 (pw_below_drewN (Below.refl _ _) nd), pw_below_drewN hB3 nd, Kept.drewN hK3 nd⟩
    · rw [if_neg hn] at hbv
      have hni : ¬ (n : Int) > 1048576 := by omega
      have hnn : n ≤ 1048576 := by omega
      have hT2 := HL2.out
      by_cases hlen : T.length < 1 + m + n + 4
      · rw [if_pos hlen] at hbv
        have HBV := Aside0.mk hbv
        have hli : (took.length : Int) + 1 < 1 + (m : Int) + (n : Int) + 4 := by omega
        clear hbv hKc hlen hT2
        go_wp2_with (go_at_call 27; refine hget.mono ?_; rintro e w4 ⟨rfl, ⟨nd, rfl⟩⟩)
        go_ret
        rw [HBV.out]
        exact ⟨rfl, Fd_below hF3 (pw_below_drewN (Below.refl _ _) nd), pw_below_drewN hB3 nd, Kept.drewN hK3 nd⟩
      · rw [if_neg hlen] at hbv
        have hli : ¬ (took.length : Int) + 1 < 1 + (m : Int) + (n : Int) + 4 := by omega
        have hcl : (chkV T).2 = 0 → (chkV T).1.length = took.length + 1 - 4 := fun h0 => by
          have := chkV_fst T (took.length + 1 - 4) (by omega) h0
          rw [this, List.length_take]
          omega
        have hmn : 1 + m ≤ took.length + 1 - 4 := by omega
        generalize chkV T = ck at *
        obtain ⟨r1, r2⟩ := ck
        have hck : ∀ nd, Calls Try.prog 28 #[.slice A2 (took.length + 1) c2] (w3.drewN nd) fun e w' => ∃ v0_ : Value, e = .returned (.tuple #[v0_, .int .i64 r2]) ∧ Kd.R (Kd.int .u8) 5 w' (w3.drewN nd).heap.size (fun k_ => ((w3.drewN nd).heap.size ≤ k_)) v0_ r1 ∧ Below (w3.drewN nd).heap.size (w3.drewN nd) w' := fun nd => by
          have hv : Kd.V (Kd.int .u8) 5 (w3.drewN nd) (w3.drewN nd).heap.size (fun k => (P k ∨ w.heap.size ≤ k) ∧ k ≠ g ∧ some k ≠ vl.ownBlock) (.slice A2 T.length c2) T := by rw [hT2]; exact Kd.R_V (Kd.R_drewN hR3 nd)
          have := crc_Check.calls Kc _ A2 c2 T r1 r2 (w3.drewN nd) hv hKc
          rw [hT2] at this
          exact this
        simp only at hbv hcl
        clear hKc hlen hT2
        by_cases hr2 : r2 = 0
        · rw [if_pos hr2] at hbv
          have HCL := Aside0.mk (hcl hr2)
          have HMN := Aside0.mk hmn
          clear hcl hmn
          subst hr2
          have HBV := Aside0.mk hbv
          clear hbv
          have ht0 : 0 ≤ T.getD 0 0 ∧ T.getD 0 0 ≤ 255 := by
            have hT2 := HL2.out
            have := htw2 _ (List.getElem_mem (show 0 < T.length by omega))
            simpa [List.getD, List.getElem?_eq_getElem (show 0 < T.length by omega)] using this
          go_upto_region 14 with (first | (go_at_call 27; refine hget.mono ?_; rintro e w4 ⟨rfl, ⟨nd, rfl⟩⟩) | (go_at_call 28; refine (hck nd).mono ?_; rintro e w5 ⟨v5, rfl, ho5, hb5⟩))
          have hb6 : Below w3.heap.size w3 w5 := below_step (pw_below_drewN (Below.refl _ _) nd) hb5
          have hH5 := blk_below hH hb6
          have hR5 := Kd.R_below hR3 hb6
          have hN5 := Kd.N_below hN3 hb6
          have hB5 := below_step hB3 hb6
          have hK5 := Kept.below hK3 hb6
          have ho5' : Kd.R (Kd.int .u8) 5 w5 w3.heap.size (fun k_ => w3.heap.size ≤ k_) v5 r1 := ho5
          obtain ⟨A5, c5, e5⟩ := Kd.R_slice ho5'
          subst e5
          have hC5 : Kd.C (Kd.int .u8) w5 A2 T.length T := Kd.C_below HRD.out.2.2 hb6
          obtain ⟨ad, eA, hx0⟩ := Kd.at_int hC5 0 (by omega) (by have := HL2.out; omega)
          have hrd0 : rd T 0 = T.getD 0 0 := rfl
          rw [hrd0] at hx0
          have hx1 : w5.cell? ad = some (.int .u8 (T.getD 0 0)) := by first | simpa using hx0 | simpa [Addr.add] using hx0
          clear hx0
          generalize hkd : T.getD 0 0 = kd at *
          subst eA
          have z0 : w5.cell? ⟨g, 0, none⟩ = some (.slice (some ad) (took.length + 1) c2) := (blk_cell hH5 0).trans rfl
          have z1 : w5.cell? ⟨g, 1, none⟩ = some (.int .i64 last) := (blk_cell hH5 1).trans rfl
          have zf := blk_frozen hH5 1
          clear y0 hget hck hkd
          go_upto_region 15 with (fail)
          have hH6 := blk_set hH5 1 (.int .i64 kd)
          have hR6 := Kd.R_far (p := ⟨g, 1, none⟩) hR5 (fun _ hk => hk.2.1) (.int .i64 kd)
          have hN6 := Kd.N_far (p := ⟨g, 1, none⟩) hN5 (fun _ hk => hk.1.2) (.int .i64 kd)
          have hg3 : g < w3.heap.size := (Array.getElem?_eq_some_iff.1 hH).1
          have ho6 := Kd.R_far (p := ⟨g, 1, none⟩) ho5' (fun k hk => by show k ≠ g; omega) (.int .i64 kd)
          have hB6 : Below w0.heap.size w0 (w5.setCell ⟨g, 1, none⟩ (.int .i64 kd)) := below_set hB5 hgw
          have hK6 : Kept w (w5.setCell ⟨g, 1, none⟩ (.int .i64 kd)) P := Kept.setCell hK5 (.inl hPg) _
          have hsz6 : w3.heap.size ≤ (w5.setCell ⟨g, 1, none⟩ (.int .i64 kd)).heap.size := by simpa using hb6.size
          clear z0 z1 zf hx1 hC5 hH5 hR5 hN5 hB5 hK5 ho5 ho5' hb5
          generalize w5.setCell ⟨g, 1, none⟩ (.int .i64 kd) = w6 at hH6 hR6 hN6 ho6 hB6 hK6 hsz6 ⊢
          have y1 : w6.cell? ⟨g, 1, none⟩ = some (.int .i64 kd) := (blk_cell hH6 1).trans rfl
          have y5 : w6.cell? ⟨g, 5, none⟩ = some vl := (blk_cell hH6 5).trans rfl
          have hm1 : 1 + m ≤ r1.length := by have := HCL.out; have := HMN.out; omega
          have hc5 := (Kd.R_reads' ho6).2.1
          obtain ⟨A9, hA9⟩ : ∃ A9 : Option Addr, A9 = (if c5 = 1 + m then A5 else A5.map (·.add ((1 + m) * 1))) := ⟨_, rfl⟩
          have hcut : ∀ W : World, (Instr.slice 22 (.slice A5 r1.length c5) (some (.int .i64 (1 + (m : Int)))) none none).run Try.prog W = .ok (.slice A9 (r1.length - (1 + m)) (c5 - (1 + m))) W := by
            obtain ⟨i0, hi0, hz0⟩ := Option.map_eq_some_iff.1 info5
            have hz1 : i0.size = 1 := by simp only [Prod.mk.injEq] at hz0; exact hz0.2.1
            have h := cut_from (P := Try.prog) 22 5 .i64 Try.underlying22 hi0 1 hz1 A5 r1.length c5 (1 + (m : Int)) (by omega) (by omega)
            rw [show (1 + (m : Int)).toNat = 1 + m by omega] at h
            rw [hA9]
            exact h
          have hF9 : Kd.F (Kd.int .u8) w6.drew (fun k => w3.heap.size ≤ k) A9 (r1.drop (1 + m)).length (r1.drop (1 + m)) := by
            rw [hA9]
            exact Kd.F_cut (Kd.R_F (Kd.R_drew ho6)) hm1 hc5
          have hdl : (r1.drop (1 + m)).length = r1.length - (1 + m) := List.length_drop
          have hFK : Kd.FK k48 w6.drew (fun k => w3.heap.size ≤ k) (⟨kd, r1.drop (1 + m)⟩ : Sec) [.int .i64 kd, .slice A9 (r1.length - (1 + m)) (c5 - (1 + m))] := fun W' hW => by
            rw [← hdl]
            exact ⟨[.int .i64 kd], [.slice A9 (r1.drop (1 + m)).length (c5 - (1 + m))], rfl, rfl, ⟨A9, c5 - (1 + m), rfl, by rw [hdl]; omega, hF9 W' hW⟩⟩
          have hg3' : g < w3.heap.size := hg3
          have hws := hK3.1
          have hvl := Kd.N_lt hN3
          have hokP : ∀ k, w3.heap.size ≤ k → ((P k ∨ w.heap.size ≤ k) ∧ k ≠ g) ∧ some k ≠ vl.ownBlock := fun k hk => ⟨⟨.inr (by omega), by omega⟩, fun e => by have := hvl k e.symm; omega⟩
          have hfrN : ∀ k, w6.drew.heap.size ≤ k → (P k ∨ w.heap.size ≤ k) ∧ k ≠ g := fun k hk => by
            have hk' : w6.heap.size ≤ k := hk
            exact ⟨.inr (by omega), by omega⟩
          have hN7 : Kd.N k48 48 w6.drew w0.heap.size (fun k => (P k ∨ w.heap.size ≤ k) ∧ k ≠ g) vl L := Kd.N_mono (Kd.N_drew hN6) (fun k hk => ⟨.inl hk.1.1, hk.1.2⟩)
          have hB7 := below_drew hB6
          have hsz7 : w0.heap.size ≤ w6.drew.heap.size := hB6.size
          have hH7 : w6.drew.heap[g]? = _ := hH6
          have hgne7 := Kd.N_ne hN7 hH7 (by decide)
          have hlL : (L.length + 1) * 32 ≤ 140737488355328 := by omega
          have hvlr : ∀ k, vl.ownBlock = some k → P k ∨ w.heap.size ≤ k := fun k hk => .inl (hN3.1 k hk).1.1
          clear hA9 hF9 hm1 hc5 hN6 hR6 ho6 hH6 hN3 hR3 hH hdl
          have hlenL : (L ++ [(⟨kd, r1.drop (1 + m)⟩ : Sec)]).length = L.length + 1 := by rw [List.length_append]; rfl
          --REGION15
          refine start_ (n := 18) (S := fun w' => w'.cell? ⟨g, 5, none⟩ = some vl ∧ w'.cell? ⟨g, 1, none⟩ = some (.int .i64 kd)) (ds := [14, 17]) #[false, false, false, false, false, false, false, false, false, false, false, false, false, false, false, false, false, false] (by kernel_rfl) rfl rfl ⟨y5, y1⟩ (fun hHeld => ?_)
          refine pure_ (i := 0) (N := some 71) (v := ?_) (a' := ?_) #[true, false, false, false, false, false, false, false, false, false, false, false, false, false, false, false, false, false] rfl rfl (by kernel_rfl) (fun _ _ _ h => h) (Or.inl ⟨by rfl, ?_⟩) ?_ ?_
          rotate_left
          · intro w'
            go_simp
            with_reducible rfl
          rotate_left
          · simp only [Act.put, List.setIfInBounds_toArray, List.set_cons_zero, List.set_cons_succ, i64_w, i32_w]
            rfl
          refine pure_ (i := 1) (N := some 72) (v := ?_) (a' := ?_) #[true, true, false, false, false, false, false, false, false, false, false, false, false, false, false, false, false, false] rfl rfl (by kernel_rfl) (fun _ _ _ h => h) (Or.inl ⟨by rfl, ?_⟩) ?_ ?_
          rotate_left
          · intro w'
            go_simp
            with_reducible rfl
          rotate_left
          · simp only [Act.put, List.setIfInBounds_toArray, List.set_cons_zero, List.set_cons_succ, i64_w, i32_w]
            rfl
          refine pure_ (i := 2) (N := some 73) (v := ?_) (a' := ?_) #[true, true, true, false, false, false, false, false, false, false, false, false, false, false, false, false, false, false] rfl rfl (by kernel_rfl) (fun _ _ _ h => h) (Or.inl ⟨by rfl, ?_⟩) ?_ ?_
          rotate_left
          · intro w'
            go_simp
            with_reducible rfl
          rotate_left
          · simp only [Act.put, List.setIfInBounds_toArray, List.set_cons_zero, List.set_cons_succ, i64_w, i32_w]
            rfl
          refine pure_ (i := 3) (N := some 74) (v := ?_) (a' := ?_) #[true, true, true, true, false, false, false, false, false, false, false, false, false, false, false, false, false, false] rfl rfl (by kernel_rfl) (fun _ _ _ h => h) (Or.inl ⟨by rfl, ?_⟩) ?_ ?_
          rotate_left
          · intro w'
            go_simp
            with_reducible rfl
          rotate_left
          · simp only [Act.put, List.setIfInBounds_toArray, List.set_cons_zero, List.set_cons_succ, i64_w, i32_w]
            rfl
          refine pure_ (i := 5) (N := some 76) (v := ?_) (a' := ?_) #[true, true, true, true, false, true, false, false, false, false, false, false, false, false, false, false, false, false] rfl rfl (by kernel_rfl) (fun _ _ _ h => h) (Or.inl ⟨by rfl, ?_⟩) ?_ ?_
          rotate_left
          · intro w'
            go_simp
            with_reducible rfl
          rotate_left
          · simp only [Act.put, List.setIfInBounds_toArray, List.set_cons_zero, List.set_cons_succ, i64_w, i32_w]
            rfl
          refine pure_ (i := 6) (N := some 77) (v := ?_) (a' := ?_) #[true, true, true, true, false, true, true, false, false, false, false, false, false, false, false, false, false, false] rfl rfl (by kernel_rfl) (fun _ _ _ h => h) (Or.inl ⟨by rfl, ?_⟩) ?_ ?_
          rotate_left
          · intro w'
            go_simp
            with_reducible rfl
          rotate_left
          · simp only [Act.put, List.setIfInBounds_toArray, List.set_cons_zero, List.set_cons_succ, i64_w, i32_w]
            rfl
          refine pure_ (i := 7) (N := some 78) (v := ?_) (a' := ?_) #[true, true, true, true, false, true, true, true, false, false, false, false, false, false, false, false, false, false] rfl rfl (by kernel_rfl) (fun _ _ _ h => h) (Or.inl ⟨by rfl, ?_⟩) ?_ ?_
          rotate_left
          · intro w'
            go_simp
            with_reducible rfl
          rotate_left
          · simp only [Act.put, List.setIfInBounds_toArray, List.set_cons_zero, List.set_cons_succ, i64_w, i32_w]
            rfl
          refine pure_ (i := 9) (N := some 80) (v := ?_) (a' := ?_) #[true, true, true, true, false, true, true, true, false, true, false, false, false, false, false, false, false, false] rfl rfl (by kernel_rfl) (fun _ _ _ h => h) (Or.inl ⟨by rfl, ?_⟩) ?_ ?_
          rotate_left
          · intro w'
            go_simp
            with_reducible rfl
          rotate_left
          · simp only [Act.put, List.setIfInBounds_toArray, List.set_cons_zero, List.set_cons_succ, i64_w, i32_w]
            rfl
          refine pure_ (i := 10) (N := some 81) (v := ?_) (a' := ?_) #[true, true, true, true, false, true, true, true, false, true, true, false, false, false, false, false, false, false] rfl rfl (by kernel_rfl) (fun _ _ _ h => h) (Or.inl ⟨by rfl, ?_⟩) ?_ ?_
          rotate_left
          · intro w'
            go_simp
            with_reducible rfl
          rotate_left
          · simp only [Act.put, List.setIfInBounds_toArray, List.set_cons_zero, List.set_cons_succ, i64_w, i32_w]
            rfl
          refine pure_ (i := 11) (N := some 82) (v := ?_) (a' := ?_) #[true, true, true, true, false, true, true, true, false, true, true, true, false, false, false, false, false, false] rfl rfl (by kernel_rfl) (fun _ _ _ h => h) (Or.inl ⟨by rfl, ?_⟩) ?_ ?_
          rotate_left
          · intro w'
            go_simp
            with_reducible rfl
          rotate_left
          · simp only [Act.put, List.setIfInBounds_toArray, List.set_cons_zero, List.set_cons_succ, i64_w, i32_w]
            rfl
          refine take_ (i := 4) (N := some 75) (v := ?_) (a' := ?_) #[true, true, true, true, true, true, true, true, false, true, true, true, false, false, false, false, false, false] rfl rfl (by kernel_rfl) (fun _ _ _ h => h) (Or.inl ⟨by rfl, ?_⟩) hHeld ?_ ?_
          rotate_left
          · rintro w' ⟨s0, s1⟩
            go_simp
            with_reducible rfl
          rotate_left
          · simp only [Act.put, List.setIfInBounds_toArray, List.set_cons_zero, List.set_cons_succ, i64_w, i32_w]
            rfl
          refine take_ (i := 8) (N := some 79) (v := ?_) (a' := ?_) #[true, true, true, true, true, true, true, true, true, true, true, true, false, false, false, false, false, false] rfl rfl (by kernel_rfl) (fun _ _ _ h => h) (Or.inl ⟨by rfl, ?_⟩) hHeld ?_ ?_
          rotate_left
          · rintro w' ⟨s0, s1⟩
            go_simp
            with_reducible rfl
          rotate_left
          · simp only [Act.put, List.setIfInBounds_toArray, List.set_cons_zero, List.set_cons_succ, i64_w, i32_w]
            rfl
          refine pure_ (i := 12) (N := some 83) (v := ?_) (a' := ?_) #[true, true, true, true, true, true, true, true, true, true, true, true, true, false, false, false, false, false] rfl rfl (by kernel_rfl) (fun _ _ _ h => h) (Or.inl ⟨by rfl, ?_⟩) ?_ ?_
          rotate_left
          · intro w'
            go_simp
            with_reducible rfl
          rotate_left
          · simp only [Act.put, List.setIfInBounds_toArray, List.set_cons_zero, List.set_cons_succ, i64_w, i32_w]
            rfl
          refine one_ (i := 13) (N := some 84) #[true, true, true, true, true, true, true, true, true, true, true, true, true, true, false, false, false, false] rfl rfl (by kernel_rfl) (by decide) (fun K hK => ?_)
          refine value_ (w1 := ?_) (v := ?_) (by rfl) rfl ?_ ?_
          rotate_left 2
          · go_simp
            constructor
            · rfl
            · rfl
          refine hK.out _ _ ⟨(((Below.refl _ _).alloc (Nat.le_refl _) _).cell (World.block_lt_of_cell? _ _ hHeld.1)).trans hHeld.1, (((Below.refl _ _).alloc (Nat.le_refl _) _).cell (World.block_lt_of_cell? _ _ hHeld.2)).trans hHeld.2⟩ (fun hHeld => ?_)
          clear hK K
          refine norm_ (a' := ?_) ?_ ?_
          rotate_left
          · show Act.put _ (some 84) _ = _
            simp only [Act.put, List.setIfInBounds_toArray, List.set_cons_zero, List.set_cons_succ, i64_w, i32_w]
            rfl
          refine last_ (i := 14) (N := some 85) #[true, true, true, true, true, true, true, true, true, true, true, true, true, true, true, false, false, false] rfl rfl (by kernel_rfl) (by decide) (fun K hK => ?_)
          refine Kd.N_append_step k48 (w0 := w0) w0.heap.size rfl (.tmp 75) (.tmp 84) 26 48 (.agg #[(.int .i64 0), (.slice none 0 0)]) 32 rfl Try.underlying26 info48 rfl (by decide) (by omega) vl L (⟨kd, r1.drop (1 + m)⟩ : Sec) [.int .i64 kd, .slice A9 (r1.length - (1 + m)) (c5 - (1 + m))] (fun k => (P k ∨ w.heap.size ≤ k) ∧ k ≠ g) (fun k => w3.heap.size ≤ k) rfl rfl hFK hokP hfrN hN7 hB7 hsz7 hlL ?_
          intro v8 w8 hN8 hb8 hg8 hat8
          obtain ⟨A8, c8, e8⟩ := Kd.N_slice hN8
          subst e8
          rw [hlenL] at hN8
          have hgc8 := blk_grown hH7 hg8 hgne7
          have y8 : w8.cell? ⟨g, 5, none⟩ = some vl := (blk_cell hgc8 5).trans rfl
          have zf8 := blk_frozen hgc8 5
          refine hK.out _ _ ?_
          clear hK K
          refine norm_ (a' := ?_) ?_ ?_
          rotate_left
          · show Act.put _ (some 85) _ = _
            simp only [Act.put, List.setIfInBounds_toArray, List.set_cons_zero, List.set_cons_succ, i64_w, i32_w]
            rfl
          refine pure_ (i := 15) (N := some 86) (v := ?_) (a' := ?_) #[true, true, true, true, true, true, true, true, true, true, true, true, true, true, true, true, false, false] rfl rfl (by kernel_rfl) (fun _ _ _ h => h) (Or.inl ⟨by rfl, ?_⟩) ?_ ?_
          rotate_left
          · intro w'
            go_simp
            with_reducible rfl
          rotate_left
          · simp only [Act.put, List.setIfInBounds_toArray, List.set_cons_zero, List.set_cons_succ, i64_w, i32_w]
            rfl
          refine pure_ (i := 16) (N := some 87) (v := ?_) (a' := ?_) #[true, true, true, true, true, true, true, true, true, true, true, true, true, true, true, true, true, false] rfl rfl (by kernel_rfl) (fun _ _ _ h => h) (Or.inl ⟨by rfl, ?_⟩) ?_ ?_
          rotate_left
          · intro w'
            go_simp
            with_reducible rfl
          rotate_left
          · simp only [Act.put, List.setIfInBounds_toArray, List.set_cons_zero, List.set_cons_succ, i64_w, i32_w]
            rfl
          refine last_ (i := 17) (N := none) #[true, true, true, true, true, true, true, true, true, true, true, true, true, true, true, true, true, true] rfl rfl (by kernel_rfl) (by decide) (fun K hK => ?_)
          refine skip_ (w1 := ?_) (by rfl) rfl ?_ ?_
          rotate_left
          · go_simp
            rfl
          refine hK.out _ _ ?_
          clear hK K
          refine done_ (by kernel_rfl) ?_
          
          --END15
          have hK8 : Kept w w8 P := Kept.of_grown hg8 (Kept.drew hK6) hvlr
          have hH9 := blk_set hgc8 5 (.slice A8 (L.length + 1) c8)
          have hN9 := Kd.N_far (p := ⟨g, 5, none⟩) hN8 (fun _ hk => hk.2) (.slice A8 (L.length + 1) c8)
          have hB9 : Below w0.heap.size w0 (w8.setCell ⟨g, 5, none⟩ (.slice A8 (L.length + 1) c8)) := below_set hb8 hgw
          have hK9 : Kept w (w8.setCell ⟨g, 5, none⟩ (.slice A8 (L.length + 1) c8)) P := Kept.setCell hK8 (.inl hPg) _
          clear y1 y5 y8 zf8 hgc8 hN8 hb8 hK8 hN7 hB7 hH7 hFK hcut hlenL hg8 hat8
          generalize w8.setCell ⟨g, 5, none⟩ (.slice A8 (L.length + 1) c8) = w9 at hH9 hN9 hB9 hK9 ⊢
          have y0 : w9.cell? ⟨g, 0, none⟩ = some (.slice (some ad) (took.length + 1) c2) := (blk_cell hH9 0).trans rfl
          have yf := blk_frozen hH9 0
          have hH10 := blk_set hH9 0 (.slice none 0 0)
          have hN10 := Kd.N_far (p := ⟨g, 0, none⟩) hN9 (fun _ hk => hk.2) (.slice none 0 0)
          have hB10 : Below w0.heap.size w0 (w9.setCell ⟨g, 0, none⟩ (.slice none 0 0)) := below_set hB9 hgw
          have hK10 : Kept w (w9.setCell ⟨g, 0, none⟩ (.slice none 0 0)) P := Kept.setCell hK9 (.inl hPg) _
          go_wp2
          go_ret
          rw [HBV.out]
          exact ⟨rfl, ⟨hgw, .inl hPg, .slice none 0 0, _, hH10, Kd.R_nil _ _ _ _ _, Kd.N_mono hN10 (fun k hk => ⟨hk, by simp [Value.ownBlock]⟩)⟩, hB10, hK10⟩
        · rw [if_neg hr2] at hbv
          have HBV := Aside0.mk hbv
          have hrb : (r2 != 0) = true := bne_iff_ne.mpr hr2
          clear hbv hcl
          go_wp2_with (first | (go_at_call 27; refine hget.mono ?_; rintro e w4 ⟨rfl, ⟨nd, rfl⟩⟩) | (go_at_call 28; refine (hck nd).mono ?_; rintro e w5 ⟨v5, rfl, ho5, hb5⟩))
          go_ret
          rw [HBV.out]
          have hb6 : Below w3.heap.size w3 w5 := below_step (pw_below_drewN (Below.refl _ _) nd) hb5
          exact ⟨rfl, Fd_below hF3 hb6, below_step hB3 hb6, Kept.below hK3 hb6⟩
  · have hget := hget 0 0 e (hKg.trans (congrArg some (gR_err _ _ _ _ he)))
    rw [show (((1 : Nat) : Int)) = 1 from rfl] at hget
    by_cases h10 : e = 10
    · subst h10
      rw [if_pos rfl] at hbv
      have HBV := Aside0.mk hbv
      clear hbv hge hgl hgg hKg hKc
      go_wp2_with (go_at_call 27; refine hget.mono ?_; rintro e w4 ⟨rfl, ⟨nd, rfl⟩⟩)
      go_ret
      rw [HBV.out]
      exact ⟨rfl, Fd_below hF3 (pw_below_drewN (Below.refl _ _) nd), pw_below_drewN hB3 nd, Kept.drewN hK3 nd⟩
    · rw [if_neg h10, if_pos he] at hbv
      have HBV := Aside0.mk hbv
      have he10 : (e == 10) = false := beq_eq_false_iff_ne.mpr h10
      have he0 : (e != 0) = true := bne_iff_ne.mpr he
      clear hbv hge hgl hgg hKg hKc
      go_wp2_with (go_at_call 27; refine hget.mono ?_; rintro e w4 ⟨rfl, ⟨nd, rfl⟩⟩)
      go_ret
      rw [HBV.out]
      exact ⟨rfl, Fd_below hF3 (pw_below_drewN (Below.refl _ _) nd), pw_below_drewN hB3 nd, Kept.drewN hK3 nd⟩
end Go.Proofs.Ytglmfnaofpbpfaa.Hf

namespace Go.Proofs.Ytglmfnaofpbpfaa.Hf
set_option linter.unusedVariables false
set_option linter.unusedSimpArgs false
open Go.RowKit Go.Proofs.Ytglmfnaofpbpfaa.P Go.Proofs.Ytglmfnaofpbpfaa.C Go.Proofs.Ytglmfnaofpbpfaa.Fv Go.Proofs.YtglmfnaofpbpfaaW.PrintWords Go.Proofs.YtglmfnaofpbpfaaW.PrintLast Go.Proofs.YtglmfnaofpbpfaaW.PrintMore

/-- One byte more. -/
def fstep (s : FS) (c : Int) : FS :=
  if s.e = 0 then (if s.took = [] then { (beginV { s with taken := s.taken + 1 } c).1 with e := (beginV { s with taken := s.taken + 1 } c).2 } else { (moreV { s with taken := s.taken + 1 } c).1 with e := (moreV { s with taken := s.taken + 1 } c).2 }) else s
def Sim (s : FS) (m : M) : Prop := s.last = m.last ∧ s.fin = m.fin ∧ s.taken = m.all ∧ s.L = m.L ∧ s.e = m.e ∧ (m.e = 0 → m.fin = true → s.took = []) ∧ (m.e = 0 → m.fin = false → s.took = m.took ∧ (m.took ≠ [] → 5 ≤ m.all))
theorem sim0 : Sim fs0 ⟨[], 0, false, 0, [], 0⟩ := ⟨rfl, rfl, rfl, rfl, rfl, fun _ h => by simp at h, fun _ _ => ⟨rfl, fun h => absurd rfl h⟩⟩
theorem sim_step (s : FS) (m : M) (c : Int) (h : Sim s m) : Sim (fstep s c) (stepM m c) := by
  obtain ⟨took, last, taken, fin, closed, L, e⟩ := s
  obtain ⟨mt, ml, mf, ma, mL, me⟩ := m
  obtain ⟨h1, h2, h3, h4, h5, h6, h7⟩ := h
  simp only at h1 h2 h3 h4 h5 h6 h7
  subst h1 h2 h3 h4 h5
  unfold fstep stepM
  by_cases he : e = 0
  · subst he
    simp only [if_true]
    cases fin with
    | true =>
      have ht := h6 rfl rfl
      subst ht
      simp only [if_true, beginV]
      exact ⟨rfl, rfl, rfl, rfl, rfl, fun h => by simp at h, fun h => by simp at h⟩
    | false =>
      obtain ⟨ht, h5⟩ := h7 rfl rfl
      subst ht
      simp only [Bool.false_eq_true, if_false]
      by_cases hn : took = []
      · subst hn
        simp only [if_true, beginV, Bool.false_eq_true, if_false]
        by_cases ha : taken < 5
        · simp only [if_pos ha, if_pos (show taken + 1 ≤ 5 by omega), Nat.add_sub_cancel]
          by_cases hx : c = hdB.getD taken 0
          · simp only [if_pos hx]
            exact ⟨rfl, rfl, rfl, rfl, rfl, fun _ h => by simp at h, fun _ _ => ⟨rfl, fun h => absurd rfl h⟩⟩
          · simp only [if_neg hx]
            exact ⟨rfl, rfl, rfl, rfl, rfl, fun h => by simp at h, fun h => by simp at h⟩
        · simp only [if_neg ha, if_neg (show ¬ taken + 1 ≤ 5 by omega)]
          by_cases h0 : c = 0
          · simp only [if_pos h0]
            exact ⟨rfl, rfl, rfl, rfl, rfl, fun _ _ => rfl, fun _ h => by simp at h⟩
          · simp only [if_neg h0]
            by_cases hq : c ≤ last ∨ c > 9
            · simp only [if_pos hq]
              exact ⟨rfl, rfl, rfl, rfl, rfl, fun h => by simp at h, fun h => by simp at h⟩
            · simp only [if_neg hq, List.nil_append]
              exact ⟨rfl, rfl, rfl, rfl, rfl, fun _ h => by simp at h, fun _ _ => ⟨rfl, fun _ => by show 5 ≤ taken + 1; omega⟩⟩
      · have h5' := h5 hn
        simp only [if_neg hn, if_neg (show ¬ taken < 5 by omega)]
        unfold moreV nextM
        simp only
        have done : ∀ (t : List Int) (q z : Int) (K : List Sec), Sim ⟨t, q, taken + 1, false, closed, K, z⟩ ⟨t, q, false, taken + 1, K, z⟩ := fun t q z K => ⟨rfl, rfl, rfl, rfl, rfl, fun _ h => by simp at h, fun _ _ => ⟨rfl, fun _ => by show 5 ≤ taken + 1; omega⟩⟩
        generalize gv ((took ++ [c]).drop 1) 0 0 = g
        by_cases h10 : g.2.2 = 10
        · simp only [if_pos h10]
          exact done _ _ _ _
        · simp only [if_neg h10]
          by_cases hne : g.2.2 ≠ 0
          · simp only [if_pos hne]
            exact done _ _ _ _
          · simp only [if_neg hne]
            by_cases hl : g.1 > 1048576
            · simp only [if_pos hl]
              exact done _ _ _ _
            · simp only [if_neg hl]
              by_cases hf : (took ++ [c]).length < 1 + g.2.1 + g.1 + 4
              · simp only [if_pos hf]
                exact done _ _ _ _
              · simp only [if_neg hf]
                by_cases hc : (chkV (took ++ [c])).2 = 0
                · simp only [if_pos hc]
                  exact done _ _ _ _
                · simp only [if_neg hc]
                  exact done _ _ _ _
  · simp only [if_neg he]
    exact ⟨rfl, rfl, rfl, rfl, rfl, h6, h7⟩
theorem sim_run : ∀ (l : List Int) (s : FS) (m : M), Sim s m → Sim (l.foldl fstep s) (l.foldl stepM m)
  | [], s, m, h => h
  | c :: l, s, m, h => sim_run l _ _ (sim_step s m c h)
end Go.Proofs.Ytglmfnaofpbpfaa.Hf

namespace Go.Proofs.Ytglmfnaofpbpfaa.Hf
set_option linter.unusedVariables false
set_option linter.unusedSimpArgs false
open Go Go.RowKit Go.Proofs.Ytglmfnaofpbpfaa.P Go.Proofs.Ytglmfnaofpbpfaa.C Go.Proofs.Ytglmfnaofpbpfaa.Fv Go.Proofs.YtglmfnaofpbpfaaW.PrintWords Go.Proofs.YtglmfnaofpbpfaaW.PrintLast Go.Proofs.YtglmfnaofpbpfaaW.PrintMore

def okF (s : FS) : Prop := (∀ c ∈ s.took, 0 ≤ c ∧ c ≤ 255) ∧ s.took.length ≤ s.taken ∧ s.L.length ≤ s.taken ∧ s.closed = false
theorem okF_step (s : FS) (c : Int) (h : okF s) (hc : 0 ≤ c ∧ c ≤ 255) : okF (fstep s c) := by
  obtain ⟨took, last, taken, fin, closed, L, e⟩ := s
  obtain ⟨h1, h2, h3, h4⟩ := h
  simp only at h1 h2 h3 h4
  have ht : ∀ x ∈ took ++ [c], 0 ≤ x ∧ x ≤ 255 := fun x hx => by
    rcases List.mem_append.1 hx with hx | hx
    · exact h1 x hx
    · simp at hx; subst hx; exact hc
  have a1 : ∀ q f z, okF ⟨took, q, taken + 1, f, closed, L, z⟩ := fun q f z => ⟨h1, Nat.le_succ_of_le h2, Nat.le_succ_of_le h3, h4⟩
  have a2 : ∀ q f z, okF ⟨took ++ [c], q, taken + 1, f, closed, L, z⟩ := fun q f z => ⟨ht, by show (took ++ [c]).length ≤ taken + 1; rw [List.length_append, one_len]; omega, Nat.le_succ_of_le h3, h4⟩
  have a3 : ∀ q f z S, okF ⟨[], q, taken + 1, f, closed, L ++ [S], z⟩ := fun q f z S => ⟨by simp, Nat.zero_le _, by show (L ++ [S]).length ≤ taken + 1; rw [List.length_append]; show L.length + 1 ≤ _; omega, h4⟩
  unfold fstep beginV moreV
  simp only
  repeat' split
  all_goals first | exact a1 _ _ _ | exact a2 _ _ _ | exact a3 _ _ _ _ | exact ⟨h1, h2, h3, h4⟩
theorem taken_step (s : FS) (c : Int) : (fstep s c).taken ≤ s.taken + 1 := by
  unfold fstep beginV moreV
  simp only
  repeat' split
  all_goals first | exact Nat.le_refl _ | exact Nat.le_succ _
theorem okF_run : ∀ (l : List Int) (s : FS), okF s → (∀ c ∈ l, 0 ≤ c ∧ c ≤ 255) → okF (l.foldl fstep s) ∧ (l.foldl fstep s).taken ≤ s.taken + l.length
  | [], s, h, _ => ⟨h, Nat.le_refl _⟩
  | c :: l, s, h, hl => by
    have := okF_run l (fstep s c) (okF_step s c h (hl c (List.mem_cons_self))) (fun x hx => hl x (List.mem_cons_of_mem _ hx))
    have h2 := taken_step s c
    exact ⟨this.1, by rw [List.foldl_cons, List.length_cons]; have := this.2; omega⟩
theorem err_run (s : FS) (h : s.e ≠ 0) : ∀ l : List Int, l.foldl fstep s = s
  | [] => rfl
  | c :: l => by
    rw [List.foldl_cons, show fstep s c = s from if_neg h]
    exact err_run s h l
def intV (v : Value) : Int := match v with | .int _ n => n | _ => 0
theorem row_at (w : World) (A : Option Addr) (x : List (List Int)) (hr : Kd.C (Kd.slice 5 (Kd.int .u8)) w A x.length x) (k : Nat) (hk : k < x.length) :
    ∃ ad A1 c1, A = some ad ∧ w.cell? (ad.add k) = some (.slice A1 x[k].length c1) ∧ x[k].length ≤ c1 ∧ Kd.C (Kd.int .u8) w A1 x[k].length x[k] := by
  obtain ⟨ad, cs, hA, _, hx, hc⟩ := Kd.C_get hr [] (k : Int) (by omega) (by omega)
  obtain ⟨A1, c1, e1, hc1, hr1⟩ := hx
  subst e1
  have hc0 := hc 0 _ rfl
  have e0 : (Int.toNat (k : Int)) * (Kd.slice 5 (Kd.int IntKind.u8)).sz + 0 = k := by
    have : (Kd.slice 5 (Kd.int IntKind.u8)).sz = 1 := rfl
    rw [this]; omega
  rw [e0] at hc0
  have eg : x.getD k [] = x[k] := by simp [List.getD, List.getElem?_eq_getElem hk]
  rw [show (Int.toNat (k : Int)) = k by omega, eg] at hc0 hr1 hc1
  exact ⟨ad, A1, c1, hA, hc0, hc1, hr1⟩
/-- What holds while bytes are fed. -/
def FRel (P : Nat → Prop) (g : Nat) (w0 w : World) (s : FS) (W : World) : Prop := Fd (fun k => P k ∨ w.heap.size ≤ k) w0.heap.size g W s ∧ Below w0.heap.size w0 W ∧ Kept w W P
theorem fstep_begin (s : FS) (c : Int) (he : s.e = 0) (ht : s.took = []) : fstep s c = { (beginV { s with taken := s.taken + 1 } c).1 with e := (beginV { s with taken := s.taken + 1 } c).2 } := by unfold fstep; rw [if_pos he, if_pos ht]
theorem fstep_more (s : FS) (c : Int) (he : s.e = 0) (ht : ¬ s.took = []) : fstep s c = { (moreV { s with taken := s.taken + 1 } c).1 with e := (moreV { s with taken := s.taken + 1 } c).2 } := by unfold fstep; rw [if_pos he, if_neg ht]
/-- A call of begin or more, its answer laid down as the error. -/
theorem FRel_store {P : Nat → Prop} {g : Nat} {w0 w W W2 : World} {s' : FS} (hP : w.heap.size ≤ W.heap.size) (hg : P g) (h : Fd (fun k => (P k ∨ w.heap.size ≤ k) ∨ W.heap.size ≤ k) w0.heap.size g W2 s') (hb : Below w0.heap.size w0 W2) (hk : Kept W W2 (fun k => P k ∨ w.heap.size ≤ k)) (hkw : Kept w W P) (e : Int) :
    FRel P g w0 w { s' with e := e } (W2.setCell ⟨g, 6, none⟩ (.int .i64 e)) := by
  have hq : Fd (fun k => P k ∨ w.heap.size ≤ k) w0.heap.size g W2 s' := Fd_mono h (fun k hk => hk.elim id (fun x => .inr (Nat.le_trans hP x)))
  exact ⟨Fd_set (i := 6) hq rfl rfl (fun _ _ => rfl), below_set hb hq.1, Kept.setCell (hkw.then_ hk (fun _ x => x)) (.inl hg) _⟩
end Go.Proofs.Ytglmfnaofpbpfaa.Hf

namespace Go.Proofs.Ytglmfnaofpbpfaa.Hf
set_option linter.unusedVariables false
set_option linter.unusedSimpArgs false
open Go Go.RowKit Go.Proofs.Ytglmfnaofpbpfaa.P Go.Proofs.Ytglmfnaofpbpfaa.C Go.Proofs.Ytglmfnaofpbpfaa.Fv Go.Proofs.YtglmfnaofpbpfaaW.PrintWords Go.Proofs.YtglmfnaofpbpfaaW.PrintLast Go.Proofs.YtglmfnaofpbpfaaW.PrintMore

/-- Chunks that lie in memory that the feeder does not touch. -/
def Rows (P : Nat → Prop) (w : World) (A : Option Addr) (ls : List (List Int)) : Prop := ∀ (i : Nat) (hi : i < ls.length), ∃ ad A1 c1, A = some ad ∧ ls[i].length ≤ c1 ∧ ∀ W, Kept w W P → W.cell? (ad.add i) = some (.slice A1 ls[i].length c1) ∧ Kd.C (Kd.int .u8) W A1 ls[i].length ls[i]
theorem flat_at (ls : List (List Int)) (i : Nat) (hi : i < ls.length) : ls.flatten = (ls.take i).flatten ++ (ls[i] ++ (ls.drop (i + 1)).flatten) := by
  conv => lhs; rw [← List.take_append_drop i ls, List.drop_eq_getElem_cons hi]
  rw [List.flatten_append, List.flatten_cons]
theorem take_flat (ls : List (List Int)) (i : Nat) (hi : i < ls.length) : (ls.take (i + 1)).flatten = (ls.take i).flatten ++ ls[i] := by
  rw [List.take_add_one, List.getElem?_eq_getElem hi, List.flatten_append]
  simp

set_option maxHeartbeats 8000000 in
set_option maxRecDepth 100000 in
theorem feed_calls (P : Nat → Prop) (g : Nat) (w0 w : World) (s : FS) (ls : List (List Int)) (A : Option Addr) (c : Nat) (hB : Below w0.heap.size w0 w) (h : Fd P w0.heap.size g w s) (ho : okF s) (hr : Rows P w A ls) (hw : ∀ b ∈ ls, ∀ x ∈ b, 0 ≤ x ∧ x ≤ 255) (hsz : s.taken + ls.flatten.length ≤ 100000) (hn : ls.length ≤ 100000) :
    Calls Try.prog 10 #[.pointer (some ⟨g, 0, none⟩), .slice A ls.length c] w fun e w' => e = .returned (.int .i64 (ls.flatten.foldl fstep s).e) ∧ FRel P g w0 w (ls.flatten.foldl fstep s) w' := by
  have hu := Try.underlying51
  obtain ⟨x1, x2, x3, x4, x6, hf⟩ := Fd_cells h
  rw [ho.2.2.2] at x4
  have hPg := h.2.1
  go_enter Try.func10, Try.ntmps10
  go_wp2_with (go_step3)
  clear x1 x2 x3 x4 x6 hf
  go_loopw [19] (fun v wr => ∃ i : Nat, i ≤ ls.length ∧ v = .int .i64 i ∧ FRel P g w0 w ((ls.take i).flatten.foldl fstep s) wr) (fun v _ => ls.length - (intV v).toNat)
  case atStart => exact ⟨0, by omega, rfl, Fd_mono h (fun _ hk => .inl hk), hB, Kept.refl _ _⟩
  case round =>
    obtain ⟨i, hi, rfl, hR⟩ := hrel
    rcases Nat.lt_or_ge i ls.length with hlt | hge
    · have hii : (i : Int) < (ls.length : Int) := by omega
      have hib : decide ((i : Int) < (ls.length : Int)) = true := decide_eq_true hii
      obtain ⟨ad, A1, c1, eA, hc1, hrow⟩ := hr i hlt
      obtain ⟨hcell, _⟩ := hrow wr hR.2.2
      have hflat := Aside0.mk (flat_at ls i hlt)
      have htake := Aside0.mk (take_flat ls i hlt)
      have hbw := hw _ (List.getElem_mem hlt)
      generalize hbe : ls[i] = b at *
      clear hbe
      generalize hpre : (ls.take i).flatten = pre at *
      have HPRE := Aside0.mk hpre
      clear hpre
      have hlenb : pre.length + b.length ≤ ls.flatten.length := by rw [hflat.out]; simp only [List.length_append]; omega
      have hprew : ∀ x ∈ pre, 0 ≤ x ∧ x ≤ 255 := by
        intro x hx
        rw [← HPRE.out] at hx
        obtain ⟨y, hy, hxy⟩ := List.mem_flatten.1 hx
        exact hw y (List.mem_of_mem_take hy) x hxy
      subst eA
      go_wp2
      clear hcell
      go_loopw [25] (fun v wq => ∃ j : Nat, j ≤ b.length ∧ v = .int .i64 j ∧ FRel P g w0 w ((pre ++ b.take j).foldl fstep s) wq) (fun v _ => b.length - (intV v).toNat)
      case atStart => exact ⟨0, by omega, rfl, by rw [List.take_zero, List.append_nil]; exact hR⟩
      case round =>
        clear hR
        obtain ⟨j, hj, rfl, hR⟩ := hrel
        have hbj : b.length ≤ 100000 := by omega
        rcases Nat.lt_or_ge j b.length with hjt | hje
        · have hji : (j : Int) < (b.length : Int) := by omega
          have hjb : decide ((j : Int) < (b.length : Int)) = true := decide_eq_true hji
          obtain ⟨_, hC⟩ := hrow wr hR.2.2
          obtain ⟨ad1, e1, hx⟩ := Kd.at_int hC (j : Int) (by omega) hji
          rw [Int.toNat_natCast, rdN b hbw j hjt, ← getN b hbw j hjt] at hx
          have hxb := hbw _ (List.getElem_mem hjt)
          have hrun := okF_run (pre ++ b.take j) s ho (fun x hx => by
            rcases List.mem_append.1 hx with hx | hx
            · exact hprew x hx
            · exact hbw x (List.mem_of_mem_take hx))
          have hlen1 : (pre ++ b.take j).length ≤ ls.flatten.length := by rw [List.length_append, List.length_take]; omega
          have hnext : (pre ++ b.take (j + 1)).foldl fstep s = fstep ((pre ++ b.take j).foldl fstep s) b[j] := by
            rw [List.take_add_one, List.getElem?_eq_getElem hjt, ← List.append_assoc, List.foldl_append]
            rfl
          have hall : ((pre ++ b.take j).foldl fstep s).e ≠ 0 → ls.flatten.foldl fstep s = (pre ++ b.take j).foldl fstep s := fun he => by
            rw [hflat.out]
            conv => lhs; rw [← List.take_append_drop j b]
            rw [List.append_assoc, ← List.append_assoc, List.foldl_append]
            exact err_run _ he _
          generalize b[j] = cc at *
          have HNEXT := Aside0.mk hnext
          clear hnext
          generalize (pre ++ b.take j).foldl fstep s = s1 at *
          subst e1
          obtain ⟨hF, hBw, hKw⟩ := hR
          obtain ⟨x1, x2, x3, x4, x6, hf⟩ := Fd_cells hF
          by_cases he : s1.e = 0
          · have heb : (s1.e != 0) = false := bne_eq_false_iff_eq.mpr he
            clear hall hflat htake
            have htk : s1.taken ≤ 100000 := by have := hrun.2; omega
            have hf2 := hf 2
            have hF1 := Fd_set (i := 2) (u := .int .i64 ((s1.taken : Int) + 1)) (s' := { s1 with taken := s1.taken + 1 }) hF rfl rfl (fun _ _ => rfl)
            have hgw : w0.heap.size ≤ g := hF.1
            have hB1 : Below w0.heap.size w0 (wr.setCell ⟨g, 2, none⟩ (.int .i64 ((s1.taken : Int) + 1))) := below_set hBw hgw
            have hK1 : Kept w (wr.setCell ⟨g, 2, none⟩ (.int .i64 ((s1.taken : Int) + 1))) P := Kept.setCell hKw (.inl hPg) _
            go_upto_region 13 with (go_step3)
            clear x1 x2 x3 x4 x6 hf hf2 hx hC hF hBw hKw
            generalize wr.setCell ⟨g, 2, none⟩ (.int .i64 ((s1.taken : Int) + 1)) = w3 at hF1 hB1 hK1 ⊢
            have hF3 := hF1
            obtain ⟨_, _, vt, vl, hgc, hRt, hNl⟩ := hF1
            obtain ⟨At, ct, et⟩ := Kd.R_slice hRt
            subst et
            have y0 : w3.cell? ⟨g, 0, none⟩ = some (.slice At s1.took.length ct) := (blk_cell hgc 0).trans rfl
            clear hgc hRt hNl
            have hP3 := hK1.1
            by_cases ht : s1.took = []
            · have hl0 : s1.took.length = 0 := by rw [ht]; rfl
              have hbeg := begin_calls (fun k => P k ∨ w.heap.size ≤ k) g w0 w3 { s1 with taken := s1.taken + 1 } cc hB1 hF3 hxb (by show 1 ≤ s1.taken + 1; omega) (by show s1.taken + 1 ≤ _; omega) (by show s1.took.length ≤ _; omega)
              have hfs := Aside0.mk (fstep_begin s1 cc he ht)
              clear ht
              generalize beginV { s1 with taken := s1.taken + 1 } cc = bv at hbeg hfs
              go_wp2_with (first | go_step3 | (go_at_call 20; refine hbeg.mono ?_; rintro e w4 ⟨rfl, hF4, hB4, hK4⟩; obtain ⟨_, _, _, _, z6, zf⟩ := Fd_cells hF4; have zf6 := zf 6; clear zf))
              have hrel := FRel_store hP3 hPg hF4 hB4 hK4 hK1 bv.2
              go_roundw
              case rel => exact ⟨j + 1, by omega, rfl, by rw [HNEXT.out, hfs.out]; exact hrel⟩
              case measure => simp [intV]; omega
            · have hl0 : 1 ≤ s1.took.length := by
                cases hq : s1.took with
                | nil => exact absurd hq ht
                | cons _ _ => simp
              have hl0i : ¬ (s1.took.length : Int) = 0 := by omega
              have hmor := more_calls (fun k => P k ∨ w.heap.size ≤ k) g w0 w3 { s1 with taken := s1.taken + 1 } cc hB1 hF3 hxb hrun.1.1 (by show s1.took.length ≤ _; have := hrun.1.2.1; omega) hl0 (by show s1.L.length ≤ _; have := hrun.1.2.2.1; omega)
              have hfs := Aside0.mk (fstep_more s1 cc he ht)
              have hlb : ((s1.took.length : Int) == 0) = false := beq_eq_false_iff_ne.mpr hl0i
              clear ht
              generalize moreV { s1 with taken := s1.taken + 1 } cc = bv at hmor hfs
              go_wp2_with (first | go_step3 | (go_at_call 21; refine hmor.mono ?_; rintro e w4 ⟨rfl, hF4, hB4, hK4⟩; obtain ⟨_, _, _, _, z6, zf⟩ := Fd_cells hF4; have zf6 := zf 6; clear zf))
              have hrel := FRel_store hP3 hPg hF4 hB4 hK4 hK1 bv.2
              go_roundw
              case rel => exact ⟨j + 1, by omega, rfl, by rw [HNEXT.out, hfs.out]; exact hrel⟩
              case measure => simp [intV]; omega
          · have HALL := Aside0.mk (hall he)
            have heb : (s1.e != 0) = true := bne_iff_ne.mpr he
            clear hall
            go_wp2_with (go_step3)
            rw [Exit.noGoto_ret]
            go_ret
            exact ⟨by rw [HALL.out]; rfl, by rw [HALL.out]; exact ⟨hF, hBw, hKw⟩⟩
        · have hji : ¬ (j : Int) < (b.length : Int) := by omega
          have hjb : decide ((j : Int) < (b.length : Int)) = false := decide_eq_false hji
          go_wp2_with (go_step3)
          go_roundw
          case rel => exact ⟨i + 1, by omega, rfl, by rw [htake.out]; rw [List.take_of_length_le hje] at hR; exact hR⟩
          case measure => simp [intV]; omega
    · have hii : ¬ (i : Int) < (ls.length : Int) := by omega
      have hib : decide ((i : Int) < (ls.length : Int)) = false := decide_eq_false hii
      rw [List.take_of_length_le hge] at hR
      obtain ⟨x1, x2, x3, x4, x6, hf⟩ := Fd_cells hR.1
      go_wp2_with (go_step3)
      go_ret
      exact ⟨rfl, hR⟩
end Go.Proofs.Ytglmfnaofpbpfaa.Hf

namespace Go.Proofs.Ytglmfnaofpbpfaa.Hf
set_option linter.unusedVariables false
set_option linter.unusedSimpArgs false
open Go Go.RowKit Go.Proofs.Ytglmfnaofpbpfaa.P Go.Proofs.Ytglmfnaofpbpfaa.C Go.Proofs.Ytglmfnaofpbpfaa.Fv Go.Proofs.YtglmfnaofpbpfaaW.PrintWords Go.Proofs.YtglmfnaofpbpfaaW.PrintLast Go.Proofs.YtglmfnaofpbpfaaW.PrintMore

def sumB (L : List Sec) : Nat := (L.map (fun S => S.f1.length)).sum
def heldF (s : FS) : Nat := s.took.length + sumB s.L
theorem sumB_snoc (L : List Sec) (S : Sec) : sumB (L ++ [S]) = sumB L + S.f1.length := by simp [sumB]
theorem sumB_take (L : List Sec) (i : Nat) (h : i < L.length) : sumB (L.take (i + 1)) = sumB (L.take i) + L[i].f1.length := by
  rw [List.take_add_one, List.getElem?_eq_getElem h]
  exact sumB_snoc _ _
theorem sumB_app (L K : List Sec) : sumB (L ++ K) = sumB L + sumB K := by simp [sumB]
theorem sumB_le (L : List Sec) (i : Nat) : sumB (L.take i) ≤ sumB L := by
  conv => rhs; rw [← List.take_append_drop i L]
  rw [sumB_app]
  omega
theorem sumB_at (L : List Sec) (i : Nat) (h : i < L.length) : L[i].f1.length ≤ sumB L := by
  have := sumB_take L i h
  have := sumB_le L (i + 1)
  omega
theorem chk_len (t : List Int) : (chkV t).1.length ≤ t.length := by
  unfold chkV
  repeat' split
  all_goals first | exact Nat.zero_le _ | (simp only [List.length_take]; omega)
theorem held_step (s : FS) (c : Int) (h : heldF s ≤ s.taken) : heldF (fstep s c) ≤ (fstep s c).taken := by
  obtain ⟨took, last, taken, fin, closed, L, e⟩ := s
  have h' : took.length + sumB L ≤ taken := h
  have hl : (took ++ [c]).length = took.length + 1 := by rw [List.length_append, one_len]
  have a1 : ∀ q f z, heldF ⟨took, q, taken + 1, f, closed, L, z⟩ ≤ taken + 1 := fun q f z => Nat.le_succ_of_le h'
  have a2 : ∀ q f z, heldF ⟨took ++ [c], q, taken + 1, f, closed, L, z⟩ ≤ taken + 1 := fun q f z => by show (took ++ [c]).length + sumB L ≤ taken + 1; omega
  have a3 : ∀ q f z k m, heldF ⟨[], q, taken + 1, f, closed, L ++ [⟨k, (chkV (took ++ [c])).1.drop m⟩], z⟩ ≤ taken + 1 := fun q f z k m => by
    show 0 + sumB (L ++ [_]) ≤ taken + 1
    rw [sumB_snoc]
    show 0 + (sumB L + ((chkV (took ++ [c])).1.drop m).length) ≤ taken + 1
    have := chk_len (took ++ [c])
    rw [List.length_drop]
    omega
  unfold fstep beginV moreV
  simp only
  repeat' split
  all_goals first | exact a1 _ _ _ | exact a2 _ _ _ | exact a3 _ _ _ _ _ | exact h
theorem held_run : ∀ (l : List Int) (s : FS), heldF s ≤ s.taken → heldF (l.foldl fstep s) ≤ (l.foldl fstep s).taken
  | [], s, h => h
  | c :: l, s, h => held_run l _ (held_step s c h)
theorem put2 {W : World} {g t : Nat} {a b c d : Value} (h : W.heap[g]? = some (.cells #[a, b] t (0, 0))) : ((W.setCell ⟨g, 0, none⟩ c).setCell ⟨g, 1, none⟩ d).heap[g]? = some (.cells #[c, d] t (0, 0)) := by
  have := blk_set (blk_set h 0 c) 1 d
  simpa using this
theorem put2_below {W W0 : World} {g : Nat} {c d : Value} (h : Below W0.heap.size W0 W) (hg : W0.heap.size ≤ g) : Below W0.heap.size W0 ((W.setCell ⟨g, 0, none⟩ c).setCell ⟨g, 1, none⟩ d) := below_set (below_set h hg) hg
theorem rdS (L : List Sec) (i : Nat) (h : i < L.length) : rd_T48 L (i : Int) = L[i] := by
  simp [rd_T48, List.getD, List.getElem?_eq_getElem h]

set_option maxHeartbeats 8000000 in
set_option maxRecDepth 100000 in
theorem held_calls (P : Nat → Prop) (base g : Nat) (w : World) (s : FS) (h : Fd P base g w s) (hn : heldF s ≤ 1000000) (hL : s.L.length ≤ 1000000) :
    Calls Try.prog 13 #[.pointer (some ⟨g, 0, none⟩)] w fun e w' => e = .returned (.int .i64 (heldF s : Int)) ∧ Below w.heap.size w w' := by
  have hu := Try.underlying51
  obtain ⟨h0, h1, vt, vl, hg, hR, hN⟩ := h
  obtain ⟨At, ct, et⟩ := Kd.R_slice hR
  obtain ⟨Al, cl, el⟩ := Kd.N_slice hN
  subst et; subst el
  have y0 : w.cell? ⟨g, 0, none⟩ = some (.slice At s.took.length ct) := (blk_cell hg 0).trans rfl
  have y5 : w.cell? ⟨g, 5, none⟩ = some (.slice Al s.L.length cl) := (blk_cell hg 5).trans rfl
  have hC := (Kd.N_reads' hN).2.2
  clear hg hR hN
  have hhd : heldF s = s.took.length + sumB s.L := rfl
  go_enter Try.func13, Try.ntmps13
  go_wp2_with (go_step3)
  go_loopw [3, 18] (fun n v wr => ∃ i m : Nat, i ≤ s.L.length ∧ v = .int .i64 i ∧ n = .int .i64 m ∧ m = s.took.length + sumB (s.L.take i) ∧ Below w.heap.size w wr) (fun _ v _ => s.L.length - (intV v).toNat)
  case atStart => exact ⟨0, s.took.length, by omega, rfl, rfl, rfl, Below.refl _ _⟩
  case round =>
    clear y0 y5
    obtain ⟨i, m, hi, rfl, rfl, hm, hB⟩ := hrel
    rcases Nat.lt_or_ge i s.L.length with hlt | hge
    · have hii : (i : Int) < (s.L.length : Int) := by omega
      have hib : decide ((i : Int) < (s.L.length : Int)) = true := decide_eq_true hii
      obtain ⟨ad, A1, c1, eA, hx0, hx1, hc1, hK1⟩ := at_T48 (Kd.C_below hC hB) (i : Int) (by omega) hii
      subst eA
      rw [rdS _ _ hlt] at hx0 hx1 hc1 hK1
      rw [Int.toNat_natCast] at hx0 hx1
      have hst := sumB_take s.L i hlt
      have hsl := sumB_le s.L (i + 1)
      generalize s.L[i] = S at *
      clear hK1 hC
      have HST := Aside0.mk hst
      have hml : m + S.f1.length ≤ 1000000 := by omega
      have HM := Aside0.mk hm
      clear hst hsl hm hhd
      go_upto_region 7 with (first | ((with_reducible refine gate_dst (N := 5) rfl ?_); refine box_event ?hg (N := 5) ?hd (cs := #[.int .i64 0, .slice none 0 0]) (t := 48) ?hr ?_; (case hd => rfl); (case hg => rfl); (case hr => first | (go_simp; done) | (go_simp; rfl)); intro g1 hg w1 hbox1 hbw; have hge1 : wr.heap.size ≤ g1 := Nat.le_of_eq hg.symm; clear hg; have hcz0 : w1.cell? ⟨g1, 0, none⟩ = some (.int .i64 0) := (blk_cell hbox1 0).trans rfl; have hcz1 : w1.cell? ⟨g1, 1, none⟩ = some (.slice none 0 0) := (blk_cell hbox1 1).trans rfl; have hfz0 := blk_frozen hbox1 0; have hfz1 := blk_frozen hbox1 1))
      clear hcz0 hcz1 hfz0 hfz1 hx0 hx1
      have hH1 := put2 (c := .int .i64 S.f0) (d := .slice A1 S.f1.length c1) hbox1
      have hB1 := below_step hB (put2_below (c := .int .i64 S.f0) (d := .slice A1 S.f1.length c1) hbw hge1)
      clear hbox1 hbw
      generalize (w1.setCell ⟨g1, 0, none⟩ (.int .i64 S.f0)).setCell ⟨g1, 1, none⟩ (.slice A1 S.f1.length c1) = v1 at hH1 hB1 ⊢
      have c11 : v1.cell? ⟨g1, 1, none⟩ = some (.slice A1 S.f1.length c1) := (blk_cell hH1 1).trans rfl
      go_wp2_with (go_step3)
      go_roundw
      case rel => exact ⟨i + 1, m + S.f1.length, by omega, rfl, rfl, by rw [HST.out, HM.out]; omega, hB1⟩
      case measure => simp [intV]; omega
    · have hii : ¬ (i : Int) < (s.L.length : Int) := by omega
      have hib : decide ((i : Int) < (s.L.length : Int)) = false := decide_eq_false hii
      rw [List.take_of_length_le hge] at hm
      have hmh : m = heldF s := hm
      clear hm
      go_wp2_with (go_step3)
      go_ret
      exact ⟨rfl, hB⟩
end Go.Proofs.Ytglmfnaofpbpfaa.Hf
