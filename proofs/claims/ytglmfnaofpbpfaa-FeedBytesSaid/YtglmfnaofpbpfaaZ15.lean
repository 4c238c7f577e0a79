/- Close: the sections. No condition. known: what the chapter's example fixes. No condition. One chunk is fed: what the laws on feeding share. No condition. Byte by byte it is told of any bytes what is told of them at once: the walk over the law. No condition. Written for this claim by a program of this session (a turned copy of the print): Go functions as Lean functions, and that the Go code comes to just these answers; or a statement proved out of them. No condition. Arguments that are structs, slices of structs, slices of slices: what their reading as data says of them, kind by kind, whatever the type. -/
import Derived.Test.YtglmfnaofpbpfaaZ14
import Derived.Test.YtglmfnaofpbpfaaZ6
import Derived.Test.YtglmfnaofpbpfaaZ8
import Derived.Test.YtglmfnaofpbpfaaZ2
import Derived.Test.YtglmfnaofpbpfaaRows
import Derived.Test.YtglmfnaofpbpfaaZ1
import Derived.Deep.Slices
import Derived.Deep.Fields
import Derived.ChangeSame
import Derived.ProofKit
import Derived.KernelRfl

namespace Go.Proofs.Ytglmfnaofpbpfaa.Hf
set_option linter.unusedVariables false
set_option linter.unusedSimpArgs false
open Go Go.RowKit Go.Proofs.Ytglmfnaofpbpfaa.P Go.Proofs.Ytglmfnaofpbpfaa.C Go.Proofs.Ytglmfnaofpbpfaa.Fv Go.Proofs.YtglmfnaofpbpfaaW.PrintWords Go.Proofs.YtglmfnaofpbpfaaW.PrintLast Go.Proofs.YtglmfnaofpbpfaaW.PrintMore

/-- make([]api.Section, 0, m). -/
theorem room_event {ops : Array Oper} {rest : List Oper} {o : Oper} {a : Act} {Q : Exit → Act → World → Prop} {W : World} (hgd : o.guard = none) {N' : Tmp} (hd : o.dst = some N') (x y : Operand) (ho : o.op = .makeSlice 26 x y) (m : Nat) (hx : a.eval x = .int .i64 0) (hy : a.eval y = .int .i64 (m : Int)) (hm : m ≤ 1000000)
    (h : ∀ v1 w1, Kd.N k48 48 w1 W.heap.size (fun k => W.heap.size ≤ k) v1 [] → Below W.heap.size W w1 → wpList Try.prog ops Q rest (a.put o.dst v1) w1) : wpList Try.prog ops Q (o :: rest) a W := by
  obtain ⟨i0, hi, hzz⟩ := Option.map_eq_some_iff.1 info48
  simp only [Prod.mk.injEq] at hzz
  obtain ⟨hz0, hz1, hz2⟩ := hzz
  have hr := run_make (P := Try.prog) W 26 48 i0 _ Try.underlying26 hi hz0 .i64 .i64 0 (m : Int) (by omega) (by omega)
    (by rw [hz2]; omega) (by omega)
  rw [Int.toNat_natCast, hz1, show (0 : Int).toNat = 0 from rfl] at hr
  refine Kd.event_run (v := .slice (some ⟨W.heap.size, 0, none⟩) 0 m) (w1 := W.alloc (.cells (madeCells (Value.cells (.agg #[(.int .i64 0), (.slice none 0 0)])) (m * 2)) 48)) hgd (by simp [execOp, ho, hx, hy, hr]) (h _ _ ?_ (below_alloc (Below.refl _ _) _))
  refine ⟨fun k hk => ?_, [], rfl, ⟨fun k hk => hk.symm, [], ⟨rfl, .inr ⟨W.heap.size, m, _, rfl, Nat.le_refl _, heap_alloc_new _ _, Nat.zero_le _, by unfold maxLen; omega, ?_, by simp⟩⟩, Reps.none _ _⟩, fun j x c hx => by simp at hx⟩
  · have hk' : some W.heap.size = some k := hk
    injection hk' with hk'
    omega
  · rw [size_madeCells]; rfl
def closeF (s : FS) : List Sec × Int := if s.e = 0 then (if s.fin = true then (s.L, 0) else ([], 10)) else ([], s.e)

set_option maxHeartbeats 8000000 in
set_option maxRecDepth 100000 in
theorem close_calls (P : Nat → Prop) (g : Nat) (w0 w : World) (s : FS) (hB : Below w0.heap.size w0 w) (h : Fd P w0.heap.size g w s) (hcl : s.closed = false) (hn : heldF s ≤ 1000000) (hL : s.L.length ≤ 1000000) (ht : s.taken ≤ 1000000) :
    Calls Try.prog 15 #[.pointer (some ⟨g, 0, none⟩)] w fun e w' => ∃ A c, e = .returned (.tuple #[.slice A (closeF s).1.length c, .int .i64 (closeF s).2]) ∧ (closeF s).1.length ≤ c ∧ Kd.F k48 w' (fun k => w.heap.size ≤ k) A (closeF s).1.length (closeF s).1 ∧ Fd P w0.heap.size g w' { s with closed := true } ∧ Below w0.heap.size w0 w' ∧ Kept w w' P := by
  have hu := Try.underlying51
  have hcv : closeF s = if s.e = 0 then (if s.fin = true then (s.L, 0) else ([], 10)) else ([], s.e) := rfl
  obtain ⟨x1, x2, x3, x4, x6, hf⟩ := Fd_cells h
  rw [hcl] at x4
  have hf4 := hf 4
  have hF1 := Fd_set (i := 4) (u := .bool true) (s' := { s with closed := true }) h rfl rfl (fun _ _ => rfl)
  have hgw : w0.heap.size ≤ g := h.1
  have hPg : P g := h.2.1
  have hB1 : Below w0.heap.size w0 (w.setCell ⟨g, 4, none⟩ (.bool true)) := below_set hB hgw
  have hK1 : Kept w (w.setCell ⟨g, 4, none⟩ (.bool true)) P := Kept.setCell (Kept.refl _ _) (.inl hPg) _
  clear hf
  go_enter Try.func15, Try.ntmps15
  go_upto_region 6 with (go_step3)
  clear x1 x2 x3 x4 x6 hf4 h
  generalize w.setCell ⟨g, 4, none⟩ (.bool true) = w1 at hF1 hB1 hK1 ⊢
  obtain ⟨x1, x2, x3, x4, x6, hf⟩ := Fd_cells hF1
  simp only at x1 x2 x3 x4 x6
  clear hf
  have nilC : ∀ W : World, Kd.F k48 W (fun k => w.heap.size ≤ k) none 0 ([] : List Sec) := fun W => Kd.F_nil _ W _
  by_cases he : s.e = 0
  · rw [if_pos he] at hcv
    rw [he] at x6
    by_cases hfin : s.fin = true
    · rw [if_pos hfin] at hcv
      rw [hfin] at x3
      have hF2 := hF1
      obtain ⟨_, _, vt, vl, hgc, hR, hN⟩ := hF1
      obtain ⟨Al, cl, el⟩ := Kd.N_slice hN
      subst el
      have y5 : w1.cell? ⟨g, 5, none⟩ = some (.slice Al s.L.length cl) := (blk_cell hgc 5).trans rfl
      have hC := (Kd.N_reads' hN).2.2
      have htk : ¬ (s.taken : Int) > 1048576 := by omega
      clear hR hN
      have HHN := Aside0.mk hn
      clear hn
      have HCV := Aside0.mk hcv
      clear hcv
      go_wp2_with (first | ((with_reducible refine gate_dst (N := 45) rfl ?_); refine room_event ?hg (N' := 45) ?hd (.const (.int .i64 0)) (.tmp 44) ?ho s.L.length ?hx ?hy hL ?_; (case hd => rfl); (case hg => rfl); (case ho => rfl); (case hx => rfl); (case hy => rfl); intro vo w2 hNo hb2; have z5 : w2.cell? ⟨g, 5, none⟩ = some (.slice Al s.L.length cl) := (blk_cell (blk_below hgc hb2) 5).trans rfl) | go_step3)
      clear y5 z5
      go_loopw [4, 51] (fun out v wr => ∃ i : Nat, i ≤ s.L.length ∧ v = .int .i64 i ∧ Kd.N k48 48 wr w1.heap.size (fun k => w1.heap.size ≤ k) out (s.L.take i) ∧ Below w1.heap.size w1 wr) (fun _ v _ => s.L.length - (intV v).toNat)
      case atStart => exact ⟨0, by omega, rfl, hNo, hb2⟩
      case round =>
        clear hNo hb2
        obtain ⟨i, hi, rfl, hNo, hb2⟩ := hrel
        rcases Nat.lt_or_ge i s.L.length with hlt | hge
        · have hii : (i : Int) < (s.L.length : Int) := by omega
          have hib : decide ((i : Int) < (s.L.length : Int)) = true := decide_eq_true hii
          obtain ⟨ad, A1, c1, eA, hx0, hx1, hc1, hKb⟩ := at_T48 (Kd.C_below hC hb2) (i : Int) (by omega) hii
          subst eA
          rw [rdS _ _ hlt] at hx0 hx1 hc1 hKb
          rw [Int.toNat_natCast] at hx0 hx1
          have hl5 : (([] : List Int).length + s.L[i].f1.length) * 1 ≤ 140737488355328 := by
            have h1 := sumB_at s.L i hlt
            have h2 : heldF s = s.took.length + sumB s.L := rfl
            have h3 := HHN.out
            rw [List.length_nil]
            omega
          have htk1 : s.L.take (i + 1) = s.L.take i ++ [s.L[i]] := by rw [List.take_add_one, List.getElem?_eq_getElem hlt]; rfl
          have hlL : ((s.L.take i).length + 1) * 32 ≤ 140737488355328 := by rw [List.length_take]; omega
          have HTK := Aside0.mk htk1
          clear htk1
          generalize s.L[i] = S at *
          generalize u4 = vo at *
          go_upto_region 16 with (first | ((with_reducible refine gate_dst (N := 6) rfl ?_); refine box_event ?hg (N := 6) ?hd (cs := #[.int .i64 0, .slice none 0 0]) (t := 48) ?hr ?_; (case hd => rfl); (case hg => rfl); (case hr => first | (go_simp; done) | (go_simp; rfl)); intro g1 hg w3 hbox1 hbw; have hge1 : wr.heap.size ≤ g1 := Nat.le_of_eq hg.symm; clear hg; have hcz0 : w3.cell? ⟨g1, 0, none⟩ = some (.int .i64 0) := (blk_cell hbox1 0).trans rfl; have hcz1 : w3.cell? ⟨g1, 1, none⟩ = some (.slice none 0 0) := (blk_cell hbox1 1).trans rfl; have hfz0 := blk_frozen hbox1 0; have hfz1 := blk_frozen hbox1 1) | go_step3)
          clear hcz0 hcz1 hfz0 hfz1 hx0 hx1
          have hH1 := put2 (c := .int .i64 S.f0) (d := .slice A1 S.f1.length c1) hbox1
          have hbq := put2_below (c := .int .i64 S.f0) (d := .slice A1 S.f1.length c1) hbw hge1
          clear hbox1 hbw
          generalize (w3.setCell ⟨g1, 0, none⟩ (.int .i64 S.f0)).setCell ⟨g1, 1, none⟩ (.slice A1 S.f1.length c1) = v1 at hH1 hbq ⊢
          have hbv := below_step hb2 hbq
          have hKd := Kd.C_below hKb (below_drew hbq)
          have hH1d : v1.drew.heap[g1]? = _ := hH1
          have hNd := Kd.N_drew (Kd.N_below hNo hbq)
          have hBd := below_drew hbv
          have hvl := Kd.N_lt hNd
          have hokP : ∀ k, v1.heap.size ≤ k → w1.heap.size ≤ k ∧ some k ≠ vo.ownBlock := fun k hk => ⟨Nat.le_trans hbv.size hk, fun e => by
            have h1 := hvl k e.symm
            have h2 : v1.drew.heap.size = v1.heap.size := rfl
            omega⟩
          have c10 : v1.cell? ⟨g1, 0, none⟩ = some (.int .i64 S.f0) := (blk_cell hH1 0).trans rfl
          have c11 : v1.cell? ⟨g1, 1, none⟩ = some (.slice A1 S.f1.length c1) := (blk_cell hH1 1).trans rfl
          clear hKb hbq hNo
          --REGION16
          refine start_ (n := 10) (S := fun w' => w'.cell? ⟨g1, 0, none⟩ = some (.int .i64 S.f0) ∧ w'.cell? ⟨g1, 1, none⟩ = some (.slice A1 S.f1.length c1)) (ds := [8]) #[false, false, false, false, false, false, false, false, false, false] (by kernel_rfl) rfl rfl ⟨c10, c11⟩ (fun hHeld => ?_)
          refine pure_ (i := 0) (N := some 55) (v := ?_) (a' := ?_) #[true, false, false, false, false, false, false, false, false, false] rfl rfl (by kernel_rfl) (fun _ _ _ h => h) (Or.inl ⟨by rfl, ?_⟩) ?_ ?_
          rotate_left
          · intro w'
            go_simp
            with_reducible rfl
          rotate_left
          · simp only [Act.put, List.setIfInBounds_toArray, List.set_cons_zero, List.set_cons_succ, i64_w, i32_w]
            rfl
          refine pure_ (i := 1) (N := some 56) (v := ?_) (a' := ?_) #[true, true, false, false, false, false, false, false, false, false] rfl rfl (by kernel_rfl) (fun _ _ _ h => h) (Or.inl ⟨by rfl, ?_⟩) ?_ ?_
          rotate_left
          · intro w'
            go_simp
            with_reducible rfl
          rotate_left
          · simp only [Act.put, List.setIfInBounds_toArray, List.set_cons_zero, List.set_cons_succ, i64_w, i32_w]
            rfl
          refine pure_ (i := 3) (N := some 58) (v := ?_) (a' := ?_) #[true, true, false, true, false, false, false, false, false, false] rfl rfl (by kernel_rfl) (fun _ _ _ h => h) (Or.inl ⟨by rfl, ?_⟩) ?_ ?_
          rotate_left
          · intro w'
            go_simp
            with_reducible rfl
          rotate_left
          · simp only [Act.put, List.setIfInBounds_toArray, List.set_cons_zero, List.set_cons_succ, i64_w, i32_w]
            rfl
          refine take_ (i := 2) (N := some 57) (v := ?_) (a' := ?_) #[true, true, true, true, false, false, false, false, false, false] rfl rfl (by kernel_rfl) (fun _ _ _ h => h) (Or.inl ⟨by rfl, ?_⟩) hHeld ?_ ?_
          rotate_left
          · rintro w' ⟨s0, s1⟩
            go_simp
            with_reducible rfl
          rotate_left
          · simp only [Act.put, List.setIfInBounds_toArray, List.set_cons_zero, List.set_cons_succ, i64_w, i32_w]
            rfl
          refine take_ (i := 4) (N := some 59) (v := ?_) (a' := ?_) #[true, true, true, true, true, false, false, false, false, false] rfl rfl (by kernel_rfl) (fun _ _ _ h => h) (Or.inl ⟨by rfl, ?_⟩) hHeld ?_ ?_
          rotate_left
          · rintro w' ⟨s0, s1⟩
            go_simp
            with_reducible rfl
          rotate_left
          · simp only [Act.put, List.setIfInBounds_toArray, List.set_cons_zero, List.set_cons_succ, i64_w, i32_w]
            rfl
          refine one_ (i := 5) (N := some 60) #[true, true, true, true, true, true, false, false, false, false] rfl rfl (by kernel_rfl) (by decide) (fun K hK => ?_)
          refine Kd.R_append_rows_step (Kd.int .u8) (w0 := v1.drew) v1.drew.heap.size rfl (.const (.slice none 0 0)) (.tmp 59) 22 5 (.int .u8 0) 1 rfl Try.underlying22 info5 rfl (by decide) (by omega) (.slice none 0 0) ([] : List Int) S.f1 _ _ _ (fun k => v1.drew.heap.size ≤ k) (fun _ => False) rfl rfl (Kd.R_nil _ _ _ _ _) hKd (fun _ _ h => h) (fun _ h => h.elim) (fun _ h => h) (Below.refl _ _) (Nat.le_refl _) hl5 ?_
          rw [List.nil_append]
          intro v5 w5 hR5 hb5 hg5 hat5
          obtain ⟨A5, c5, e5⟩ := Kd.R_slice hR5
          subst e5
          have hH5 := blk_below hH1d hb5
          have hN5 := Kd.N_below hNd hb5
          have hB5 := below_step hBd hb5
          have hFK : Kd.FK k48 w5 (fun k => v1.heap.size ≤ k) S [.int .i64 S.f0, .slice A5 S.f1.length c5] := k48_mkF _ _ S (Kd.R_reads' hR5).2.1 (Kd.R_F hR5)
          have hfrN : ∀ k, w5.heap.size ≤ k → w1.heap.size ≤ k := fun k hk => Nat.le_trans hB5.size hk
          refine hK.out _ _ ⟨(blk_cell hH5 0).trans rfl, (blk_cell hH5 1).trans rfl⟩ (fun hHeld => ?_)
          clear hK K
          refine norm_ (a' := ?_) ?_ ?_
          rotate_left
          · show Act.put _ (some 60) _ = _
            simp only [Act.put, List.setIfInBounds_toArray, List.set_cons_zero, List.set_cons_succ, i64_w, i32_w]
            rfl
          refine pure_ (i := 6) (N := some 61) (v := ?_) (a' := ?_) #[true, true, true, true, true, true, true, false, false, false] rfl rfl (by kernel_rfl) (fun _ _ _ h => h) (Or.inl ⟨by rfl, ?_⟩) ?_ ?_
          rotate_left
          · intro w'
            go_simp
            with_reducible rfl
          rotate_left
          · simp only [Act.put, List.setIfInBounds_toArray, List.set_cons_zero, List.set_cons_succ, i64_w, i32_w]
            rfl
          refine one_ (i := 7) (N := some 62) #[true, true, true, true, true, true, true, true, false, false] rfl rfl (by kernel_rfl) (by decide) (fun K hK => ?_)
          refine value_ (w1 := ?_) (v := ?_) (by rfl) rfl ?_ ?_
          rotate_left 2
          · go_simp
            constructor
            · rfl
            · rfl
          refine hK.out _ _ ⟨(((Below.refl _ _).alloc (Nat.le_refl _) _).cell (World.block_lt_of_cell? _ _ hHeld.1)).trans hHeld.1, (((Below.refl _ _).alloc (Nat.le_refl _) _).cell (World.block_lt_of_cell? _ _ hHeld.2)).trans hHeld.2⟩ (fun hHeld => ?_)
          clear hK K
          refine norm_ (a' := ?_) ?_ ?_
          rotate_left
          · show Act.put _ (some 62) _ = _
            simp only [Act.put, List.setIfInBounds_toArray, List.set_cons_zero, List.set_cons_succ, i64_w, i32_w]
            rfl
          refine last_ (i := 8) (N := some 63) #[true, true, true, true, true, true, true, true, true, false] rfl rfl (by kernel_rfl) (by decide) (fun K hK => ?_)
          refine Kd.N_append_step k48 (w0 := w1) w1.heap.size rfl (.tmp 55) (.tmp 62) 26 48 (.agg #[(.int .i64 0), (.slice none 0 0)]) 32 rfl Try.underlying26 info48 rfl (by decide) (by omega) vo (s.L.take i) S [.int .i64 S.f0, .slice A5 S.f1.length c5] (fun k => w1.heap.size ≤ k) (fun k => v1.heap.size ≤ k) rfl rfl hFK hokP hfrN hN5 hB5 hB5.size hlL ?_
          intro v8 w8 hN8 hb8 hg8 hat8
          refine hK.out _ _ ?_
          clear hK K
          refine norm_ (a' := ?_) ?_ ?_
          rotate_left
          · show Act.put _ (some 63) _ = _
            simp only [Act.put, List.setIfInBounds_toArray, List.set_cons_zero, List.set_cons_succ, i64_w, i32_w]
            rfl
          refine pure_ (i := 9) (N := some 4) (v := ?_) (a' := ?_) #[true, true, true, true, true, true, true, true, true, true] rfl rfl (by kernel_rfl) (fun _ _ _ h => h) (Or.inl ⟨by rfl, ?_⟩) ?_ ?_
          rotate_left
          · intro w'
            go_simp
            with_reducible rfl
          rotate_left
          · simp only [Act.put, List.setIfInBounds_toArray, List.set_cons_zero, List.set_cons_succ, i64_w, i32_w]
            rfl
          refine done_ (by kernel_rfl) ?_
          
          --END16
          go_wp2_with (go_step3)
          go_roundw
          case rel => exact ⟨i + 1, by omega, rfl, by rw [HTK.out]; exact hN8, hb8⟩
          case measure => simp [intV]; omega
        · have hii : ¬ (i : Int) < (s.L.length : Int) := by omega
          have hib : decide ((i : Int) < (s.L.length : Int)) = false := decide_eq_false hii
          rw [List.take_of_length_le hge] at hNo
          generalize u4 = vo at *
          obtain ⟨Ao, co, eo⟩ := Kd.N_slice hNo
          subst eo
          have hrd := Kd.N_reads' hNo
          go_wp2_with (go_step3)
          go_ret2
          rw [HCV.out]
          have hF3 := Fd_below hF2 hb2
          rw [he, hfin] at hF3
          exact ⟨Ao, co, rfl, hrd.2.1, Kd.F_mono (Kd.N_F hNo) (fun k hk => Nat.le_trans hK1.1 hk), hF3, below_step hB1 hb2, Kept.below hK1 hb2⟩
    · have hff : s.fin = false := by simpa using hfin
      rw [if_neg hfin] at hcv
      rw [hff] at x3
      have HCV := Aside0.mk hcv
      clear hcv
      go_wp2_with (go_step3)
      go_ret2
      rw [HCV.out]
      exact ⟨none, 0, rfl, Nat.le_refl _, nilC _, hF1, hB1, hK1⟩
  · rw [if_neg he] at hcv
    have heb : (s.e != 0) = true := bne_iff_ne.mpr he
    have HCV := Aside0.mk hcv
    clear hcv
    go_wp2_with (go_step3)
    go_quiet (go_step3)
    go_wp2_with (go_step3)
    go_ret2
    rw [HCV.out]
    exact ⟨none, 0, rfl, Nat.le_refl _, nilC _, Fd_below hF1 (pw_below_drewN (Below.refl _ _) _), pw_below_drewN hB1 _, Kept.drewN hK1 _⟩
end Go.Proofs.Ytglmfnaofpbpfaa.Hf

namespace Go.Proofs.Ytglmfnaofpbpfaa.Hf
set_option linter.unusedVariables false
set_option linter.unusedSimpArgs false
open Go Go.RowKit Go.Proofs.Ytglmfnaofpbpfaa.P Go.Proofs.Ytglmfnaofpbpfaa.C Go.Proofs.Ytglmfnaofpbpfaa.Fv Go.Proofs.YtglmfnaofpbpfaaW.PrintWords Go.Proofs.YtglmfnaofpbpfaaW.PrintLast Go.Proofs.YtglmfnaofpbpfaaW.PrintMore

theorem Fd_bound {P : Nat → Prop} {base g : Nat} {w : World} {s : FS} (h : Fd P base g w s) : Fd (fun k => P k ∧ k < w.heap.size) base g w s := by
  obtain ⟨h0, h1, vt, vl, hg, hR, hN⟩ := h
  exact ⟨h0, ⟨h1, (Array.getElem?_eq_some_iff.1 hg).1⟩, vt, vl, hg, Kd.R_mono (Kd.R_bound hR) (fun k hk => ⟨⟨⟨hk.1.1.1, hk.2.2.1⟩, hk.1.1.2⟩, hk.1.2⟩), Kd.N_mono (Kd.N_bound hN) (fun k hk => ⟨⟨⟨hk.1.1.1, hk.2⟩, hk.1.1.2⟩, hk.1.2⟩)⟩
theorem Fd_lt {P : Nat → Prop} {base g : Nat} {w : World} {s : FS} (h : Fd P base g w s) : g < w.heap.size := by
  obtain ⟨h0, h1, vt, vl, hg, hR, hN⟩ := h
  exact (Array.getElem?_eq_some_iff.1 hg).1
theorem rows_of {P : Nat → Prop} {w : World} {B : Nat} {cs : Array Value} {ls : List (List Int)} (hh : w.heap[B]? = some (.cells cs 22 (0, 0))) (hn : ¬ P B)
    (hrow : ∀ (i : Nat) (hi : i < ls.length), ∃ A1 c1, cs[i]? = some (.slice A1 ls[i].length c1) ∧ ls[i].length ≤ c1 ∧ ∀ W, Kept w W P → Kd.C (Kd.int .u8) W A1 ls[i].length ls[i]) : Rows P w (some ⟨B, 0, none⟩) ls := by
  intro i hi
  obtain ⟨A1, c1, h1, h2, h3⟩ := hrow i hi
  refine ⟨⟨B, 0, none⟩, A1, c1, rfl, h2, fun W hW => ⟨?_, h3 W hW⟩⟩
  have := (blk_cell (blk_kept hh hW hn) i).trans h1
  rw [show Addr.add ⟨B, 0, none⟩ i = ⟨B, i, none⟩ from by by_cases h0 : i = 0 <;> simp [Addr.add, h0]]
  exact this
set_option maxHeartbeats 8000000 in
set_option maxRecDepth 100000 in
theorem feed_closed (P : Nat → Prop) (base g : Nat) (w : World) (s : FS) (v : Value) (h : Fd P base g w s) (hc : s.closed = true) :
    Calls Try.prog 10 #[.pointer (some ⟨g, 0, none⟩), v] w fun e w' => e = .returned (.int .i64 40) ∧ w' = w := by
  have hu := Try.underlying51
  obtain ⟨x1, x2, x3, x4, x6, hf⟩ := Fd_cells h
  rw [hc] at x4
  go_enter Try.func10, Try.ntmps10
  go_wp2_with (go_step3)
  rw [Exit.noGoto_ret]
  go_ret
  exact ⟨rfl, rfl⟩
set_option maxHeartbeats 8000000 in
set_option maxRecDepth 100000 in
theorem feed_nil (w : World) (v : Value) : Calls Try.prog 10 #[.pointer none, v] w fun e w' => e = .returned (.int .i64 1) ∧ w' = w := by
  go_enter Try.func10, Try.ntmps10
  go_wp2_with (go_step3)
  rw [Exit.noGoto_ret]
  go_ret
  exact ⟨rfl, rfl⟩
theorem ex_run : ([[76], [], [80, 68, 89, 1, 0]] : List (List Int)).flatten.foldl fstep fs0 = ⟨[], 0, 6, true, false, [], 0⟩ := by rfl
theorem okF0 : okF fs0 := ⟨by simp [fs0], Nat.le_refl _, Nat.le_refl _, rfl⟩
set_option maxHeartbeats 8000000 in
set_option maxRecDepth 100000 in
theorem known_calls (w : World) : Calls Try.prog 7 #[] w fun e w' => e = .returned (.bool true) ∧ Below w.heap.size w w' := by
  have hnew := new_calls w
  go_enter Try.func7, Try.ntmps7
  go_upto_region 4 with (first | (go_at_call 8; refine hnew.mono ?_; rintro e w1 ⟨rfl, hF1, hb1⟩) | go_step3)
  clear hnew
  have hlt := Fd_lt hF1
  obtain ⟨W4, hW4⟩ : ∃ W4 : World, W4 = ((w1.alloc (.cells #[.int .u8 76] 5)).alloc (.cells #[.int .u8 80, .int .u8 68, .int .u8 89, .int .u8 1, .int .u8 0] 5)).alloc (.cells #[.slice (some ⟨w1.heap.size, 0, none⟩) 1 1, .slice none 0 0, .slice (some ⟨w1.heap.size + 1, 0, none⟩) 5 5] 22) := ⟨_, rfl⟩
  have z1 : (w1.alloc (.cells #[.int .u8 76] 5)).heap.size = w1.heap.size + 1 := by simp
  have z2 : ((w1.alloc (.cells #[.int .u8 76] 5)).alloc (.cells #[.int .u8 80, .int .u8 68, .int .u8 89, .int .u8 1, .int .u8 0] 5)).heap.size = w1.heap.size + 1 + 1 := by simp
  have hb4 : Below w1.heap.size w1 W4 := by
    rw [hW4]
    exact (((Below.refl _ w1).alloc (Nat.le_refl _) _).alloc (by rw [z1]; omega) _).alloc (by rw [z2]; omega) _
  have g3 : W4.heap[w1.heap.size + 1 + 1]? = some (.cells #[.slice (some ⟨w1.heap.size, 0, none⟩) 1 1, .slice none 0 0, .slice (some ⟨w1.heap.size + 1, 0, none⟩) 5 5] 22 (0, 0)) := by
    rw [hW4, ← z2]; exact heap_alloc_new _ _
  have g2 : W4.heap[w1.heap.size + 1]? = some (.cells #[.int .u8 80, .int .u8 68, .int .u8 89, .int .u8 1, .int .u8 0] 5 (0, 0)) := by
    rw [hW4, heap_alloc_old _ _ (by rw [z2]; omega), ← z1]; exact heap_alloc_new _ _
  have g1 : W4.heap[w1.heap.size]? = some (.cells #[.int .u8 76] 5 (0, 0)) := by
    rw [hW4, heap_alloc_old _ _ (by rw [z2]; omega), heap_alloc_old _ _ (by rw [z1]; omega)]; exact heap_alloc_new _ _
  have hrows : Rows (fun k => k = w.heap.size) W4 (some ⟨w1.heap.size + 1 + 1, 0, none⟩) [[76], [], [80, 68, 89, 1, 0]] := rows_of g3 (by show ¬ _ = _; omega) (by
    intro i hi
    match i, hi with
    | 0, _ => exact ⟨_, 1, rfl, Nat.le_refl _, fun W hW => C_bytes' W _ [76] _ 5 (0, 0) (blk_kept g1 hW (by show ¬ _ = _; omega)) rfl (by decide)⟩
    | 1, _ => exact ⟨_, 0, rfl, Nat.le_refl _, fun W hW => Kd.C_nil _ W⟩
    | 2, _ => exact ⟨_, 5, rfl, Nat.le_refl _, fun W hW => C_bytes' W _ [80, 68, 89, 1, 0] _ 5 (0, 0) (blk_kept g2 hW (by show ¬ _ = _; omega)) rfl (by decide)⟩)
  have hB4 := below_step hb1 hb4
  have hfeed := feed_calls (fun k => k = w.heap.size) w.heap.size w W4 fs0 [[76], [], [80, 68, 89, 1, 0]] _ 3 hB4 (Fd_below hF1 hb4) okF0 hrows (by decide) (by decide) (by decide)
  rw [ex_run] at hfeed
  clear g1 g2 g3 z1 z2 hrows hF1 hb1
  go_upto_region 5 with (first | (go_at_call 10; rw [← hW4]; refine hfeed.mono ?_; rintro e w5 ⟨rfl, hF5, hB5, hK5⟩) | go_step3)
  have hclose := close_calls _ w.heap.size w w5 _ hB5 hF5 rfl (by decide) (by decide) (by decide)
  rw [show closeF ⟨[], 0, 6, true, false, [], 0⟩ = ([], 0) from rfl] at hclose
  go_upto_region 7 with (first | (go_at_call 15; refine hclose.mono ?_; rintro e w6 ⟨A6, c6, rfl, hc6, hC6, hF6, hB6, hK6⟩) | go_step3)
  have hfc := fun v => feed_closed _ _ _ w6 _ v hF6 rfl
  have htk := taken_calls _ _ _ w6 _ hF6
  clear hF6 hfeed hclose
  go_wp2_with (first | (have t_ := tag; go_at_call 10; refine (feed_nil _ _).mono ?_; rintro e w7 ⟨rfl, rfl⟩) | (go_at_call 10; refine (hfc _).mono ?_; rintro e w7 ⟨rfl, rfl⟩; have tag := True.intro) | (go_at_call 12; refine htk.mono ?_; rintro e w8 ⟨rfl, rfl⟩) | go_step3)
  go_ret
  exact ⟨rfl, hB6⟩
end Go.Proofs.Ytglmfnaofpbpfaa.Hf

namespace Go.Proofs.Ytglmfnaofpbpfaa.Hf
set_option linter.unusedVariables false
set_option linter.unusedSimpArgs false
open Go Go.RowKit Go.Proofs.Ytglmfnaofpbpfaa.P Go.Proofs.Ytglmfnaofpbpfaa.C Go.Proofs.Ytglmfnaofpbpfaa.Fv Go.Proofs.YtglmfnaofpbpfaaW.PrintWords Go.Proofs.YtglmfnaofpbpfaaW.PrintLast Go.Proofs.YtglmfnaofpbpfaaW.PrintMore

theorem cut_bytes (A : Option Addr) (c : Nat) (xs : List Int) (a b : Nat) (h1 : a ≤ b) (h2 : b ≤ xs.length) (hc : xs.length ≤ c) :
    ∃ A' : Option Addr, (∀ W : World, (Instr.slice 22 (.slice A xs.length c) (some (.int .i64 (a : Int))) (some (.int .i64 (b : Int))) none).run Try.prog W = .ok (.slice A' ((xs.take b).drop a).length (c - a)) W) ∧
      (∀ w : World, Kd.C (Kd.int .u8) w A xs.length xs → Kd.C (Kd.int .u8) w A' ((xs.take b).drop a).length ((xs.take b).drop a)) ∧ ((xs.take b).drop a).length ≤ c - a := by
  obtain ⟨i0, hi, _, hsz, _⟩ := info_parts info5
  obtain ⟨A', g1, g2, g3⟩ := print_mid_of (P := Try.prog) (Value.int .u8) 0 22 5 .i64 .i64 Try.underlying22 hi hsz A c xs (a : Int) (b : Int) (by omega) (by omega) (by omega) hc
  simp only [Int.toNat_natCast] at g1 g2 g3
  exact ⟨A', g1, fun w h => Kd.C_of_reads (h1 := fun _ => rfl) (g2 _ (Kd.reads_of_C h)), g3⟩
theorem one_byte (A : Option Addr) (c : Nat) (xs : List Int) (i : Nat) (h : i < xs.length) (hc : xs.length ≤ c) :
    ∃ A' : Option Addr, (∀ W : World, (Instr.slice 22 (.slice A xs.length c) (some (.int .i64 (i : Int))) (some (.int .i64 ((i : Int) + 1))) none).run Try.prog W = .ok (.slice A' 1 (c - i)) W) ∧
      (∀ w : World, Kd.C (Kd.int .u8) w A xs.length xs → Kd.C (Kd.int .u8) w A' 1 [xs[i]]) ∧ 1 ≤ c - i := by
  obtain ⟨A', g1, g2, g3⟩ := cut_bytes A c xs i (i + 1) (by omega) (by omega) hc
  have e : (xs.take (i + 1)).drop i = [xs[i]] := by
    rw [List.take_add_one, List.getElem?_eq_getElem h, List.drop_append_of_le_length (by rw [List.length_take]; omega), List.drop_of_length_le (by rw [List.length_take]; omega)]
    rfl
  rw [e] at g1 g2 g3
  exact ⟨A', g1, g2, by have : ([xs[i]] : List Int).length = 1 := rfl; omega⟩
theorem feed1 (w0 w : World) (g : Nat) (s : FS) (Q : Nat → Prop) (b : List Int) (A1 : Option Addr) (c1 : Nat) (hB : Below w0.heap.size w0 w) (h : Fd Q w0.heap.size g w s) (ho : okF s) (hr : ∀ W, Kept w W Q → Kd.C (Kd.int .u8) W A1 b.length b) (hc : b.length ≤ c1) (hw : ∀ x ∈ b, 0 ≤ x ∧ x ≤ 255) (hsz : s.taken + b.length ≤ 100000) :
    Calls Try.prog 10 #[.pointer (some ⟨g, 0, none⟩), .slice (some ⟨w.heap.size, 0, none⟩) 1 1] (w.alloc (.cells #[.slice A1 b.length c1] 22)) fun e w' => e = .returned (.int .i64 (b.foldl fstep s).e) ∧ Fd (fun k => Q k ∨ w.heap.size ≤ k) w0.heap.size g w' (b.foldl fstep s) ∧ Below w0.heap.size w0 w' ∧ Kept w w' Q := by
  have hsize : (w.alloc (.cells #[.slice A1 b.length c1] 22)).heap.size = w.heap.size + 1 := by simp
  have hb1 : Below w.heap.size w (w.alloc (.cells #[.slice A1 b.length c1] 22)) := (Below.refl _ w).alloc (Nat.le_refl _) _
  have hkept : ∀ W, Kept (w.alloc (.cells #[.slice A1 b.length c1] 22)) W (fun k => Q k ∧ k < w.heap.size) → Kept w W Q := fun W hW => ⟨by have := hW.1; omega, fun i hi hq => (hW.2 i (by omega) (fun hx => hq hx.1)).trans (hb1.block i hi)⟩
  have hrows : Rows (fun k => Q k ∧ k < w.heap.size) (w.alloc (.cells #[.slice A1 b.length c1] 22)) (some ⟨w.heap.size, 0, none⟩) [b] := rows_of (heap_alloc_new _ _) (by show ¬ (_ ∧ _); omega) (by
    intro i hi
    obtain rfl : i = 0 := by simpa using hi
    exact ⟨A1, c1, rfl, hc, fun W hW => hr W (hkept W hW)⟩)
  have := feed_calls (fun k => Q k ∧ k < w.heap.size) g w0 _ s [b] (some ⟨w.heap.size, 0, none⟩) 1 (below_step hB hb1) (Fd_below (Fd_bound h) hb1) ho hrows (by simpa using hw) (by simpa using hsz) (by show 1 ≤ _; omega)
  have ef : ([b] : List (List Int)).flatten = b := by simp
  rw [ef] at this
  refine this.mono ?_
  rintro e w' ⟨rfl, hF, hB', hK⟩
  exact ⟨rfl, Fd_mono hF (fun k hk => hk.elim (fun x => .inl x.1) (fun x => .inr (by omega))), hB', hkept _ hK⟩
/-- What the feeder tells at the end is what is told at once. -/
theorem close_dec (b : List Int) : closeF (b.foldl fstep fs0) = decW b := by
  have h := sim_run b fs0 _ sim0
  rw [← machine b]
  generalize b.foldl fstep fs0 = s at *
  generalize b.foldl stepM _ = m at *
  obtain ⟨h1, h2, h3, h4, h5, _⟩ := h
  unfold closeF closeV
  rw [h2, h4, h5]
theorem held0 : heldF fs0 ≤ fs0.taken := Nat.le_refl _
theorem dec_len (b : List Int) : (decW b).1.length ≤ b.length := by
  rw [← close_dec]
  have h := (okF_run b fs0 okF0)
  unfold closeF
  have hk : ∀ s : FS, s.L.length ≤ b.length → (if s.e = 0 then (if s.fin = true then (s.L, 0) else (([] : List Sec), 10)) else ([], s.e)).1.length ≤ b.length := by
    intro s hs
    repeat' split
    all_goals first | exact hs | exact Nat.zero_le _
  apply hk
  have : ∀ (l : List Int) (s : FS), s.L.length ≤ s.taken → (l.foldl fstep s).L.length ≤ s.taken + l.length := by
    intro l
    induction l with
    | nil => intro s hs; exact hs
    | cons c l ih =>
      intro s hs
      have h1 : (fstep s c).L.length ≤ (fstep s c).taken ∧ (fstep s c).taken ≤ s.taken + 1 := ⟨by
        obtain ⟨took, last, taken, fin, closed, L, e⟩ := s
        unfold fstep beginV moreV
        simp only at hs ⊢
        repeat' split
        all_goals first | exact hs | exact Nat.le_succ_of_le hs | (simp only [List.length_append, List.length_cons, List.length_nil]; omega), taken_step s c⟩
      have := ih (fstep s c) h1.1
      rw [List.foldl_cons, List.length_cons]
      omega
  have := this b fs0 (Nat.le_refl _)
  simpa [fs0] using this
end Go.Proofs.Ytglmfnaofpbpfaa.Hf

namespace Go.Proofs.Ytglmfnaofpbpfaa.Hf
set_option linter.unusedVariables false
set_option linter.unusedSimpArgs false
open Go Go.RowKit Go.Proofs.Ytglmfnaofpbpfaa.P Go.Proofs.Ytglmfnaofpbpfaa.C Go.Proofs.Ytglmfnaofpbpfaa.Fv Go.Proofs.YtglmfnaofpbpfaaW.PrintWords Go.Proofs.YtglmfnaofpbpfaaW.PrintLast Go.Proofs.YtglmfnaofpbpfaaW.PrintMore

set_option maxHeartbeats 8000000 in
set_option maxRecDepth 100000 in
theorem bytes_calls (A0 : Option Addr) (c0 : Nat) (l0 : List Int) (w : World) (hr0 : Kd.C (Kd.int .u8) w A0 l0.length l0) (hc0 : l0.length ≤ c0) (hw : ∀ c ∈ l0, 0 ≤ c ∧ c ≤ 255) :
    Calls Try.prog 5 #[.slice A0 l0.length c0] w fun e w' => e = .returned (.bool true) ∧ Below w.heap.size w w' := by
  have hkn := known_calls
  by_cases hlen : (l0.length : Int) > 700
  · go_enter Try.func5, Try.ntmps5
    go_wp2_with (go_at_call 7; refine (hkn _).mono ?_; rintro e w2 ⟨rfl, hb2⟩)
    go_ret
    exact ⟨rfl, hb2⟩
  · have hl7 : l0.length ≤ 700 := by omega
    have hnew := new_calls w
    obtain ⟨K, hK⟩ := dec_ev l0 hw (by omega)
    have hdec := fun W h => frame_Decode.calls K A0 c0 l0 (decW l0).1 (decW l0).2 W h hc0 (hK K (Nat.le_refl _))
    clear hK
    go_enter Try.func5, Try.ntmps5
    go_wp2_with (first | (go_at_call 8; refine hnew.mono ?_; rintro e w1 ⟨rfl, hF1, hb1⟩) | go_step3)
    go_loopw [4] (fun v wr => ∃ i : Nat, i ≤ l0.length ∧ v = .int .i64 i ∧ Fd (fun k => w.heap.size ≤ k) w.heap.size w.heap.size wr ((l0.take i).foldl fstep fs0) ∧ Below w.heap.size w wr) (fun v _ => l0.length - (intV v).toNat)
    case atStart => exact ⟨0, by omega, rfl, Fd_mono hF1 (fun k hk => Nat.le_of_eq hk.symm), hb1⟩
    case round =>
      clear hF1 hb1
      obtain ⟨i, hi, rfl, hF, hB⟩ := hrel
      rcases Nat.lt_or_ge i l0.length with hlt | hge
      · have hii : (i : Int) < (l0.length : Int) := by omega
        have hib : decide ((i : Int) < (l0.length : Int)) = true := decide_eq_true hii
        obtain ⟨A1, hcut, hC1, hc1⟩ := one_byte A0 c0 l0 i hlt hc0
        have hok := okF_run (l0.take i) fs0 okF0 (fun x hx => hw x (List.mem_of_mem_take hx))
        have hlt1 : (l0.take i).length ≤ i := by rw [List.length_take]; omega
        have htk : ((l0.take i).foldl fstep fs0).taken ≤ 700 := by have h1 : fs0.taken = 0 := rfl; omega
        have hfeed := feed1 w wr w.heap.size ((l0.take i).foldl fstep fs0) (fun k => w.heap.size ≤ k ∧ k < wr.heap.size) [l0[i]] A1 (c0 - i) hB (Fd_bound hF) hok.1 (fun W hW => hC1 W (Kd.C_F (Kd.heap_int .u8) hr0 W (fun k hk hk' => (hW.2 k (Nat.lt_of_lt_of_le hk' hB.size) (by omega)).trans (hB.block k hk')))) (by show 1 ≤ _; omega) (fun x hx => by simp at hx; subst hx; exact hw _ (List.getElem_mem hlt)) (by show _ + 1 ≤ _; omega)
        have hnx : (l0.take (i + 1)).foldl fstep fs0 = [l0[i]].foldl fstep ((l0.take i).foldl fstep fs0) := by rw [List.take_add_one, List.getElem?_eq_getElem hlt, List.foldl_append]; rfl
        have HN := Aside0.mk hnx
        clear hnx hC1 hok hlt1 htk
        generalize [l0[i]].foldl fstep ((l0.take i).foldl fstep fs0) = s2 at *
        rw [show ([l0[i]] : List Int).length = 1 from rfl] at hfeed
        go_wp2_with (first | (go_at_call 10; refine hfeed.mono ?_; rintro e w4 ⟨rfl, hF4, hB4, hK4⟩) | go_step3)
        go_roundw
        case rel => exact ⟨i + 1, by omega, rfl, by rw [HN.out]; exact Fd_mono hF4 (fun k hk => hk.elim (fun x => x.1) (fun x => Nat.le_trans hB.size x)), hB4⟩
        case measure => simp [intV]; omega
      · have hii : ¬ (i : Int) < (l0.length : Int) := by omega
        have hib : decide ((i : Int) < (l0.length : Int)) = false := decide_eq_false hii
        rw [List.take_of_length_le hge] at hF
        have hok := okF_run l0 fs0 okF0 hw
        have htk : (l0.foldl fstep fs0).taken ≤ 700 := by have h1 : fs0.taken = 0 := rfl; have := hok.2; omega
        have hhd := held_run l0 fs0 held0
        have hLL := hok.1.2.2.1
        have hclose := close_calls _ w.heap.size w wr _ hB hF hok.1.2.2.2 (by omega) (by omega) (by omega)
        rw [close_dec] at hclose
        obtain ⟨K2, hK2⟩ := rsame_self (decW l0).1 (by have := dec_len l0; omega)
        have hK2 := hK2 K2 (Nat.le_refl _)
        have hDEC := Aside0.mk hclose
        clear hclose hok htk hhd hLL hF
        generalize decW l0 = r at *
        obtain ⟨r1, r2⟩ := r
        simp only at hK2
        go_upto_region 11 with (first | (go_at_call 15; refine hDEC.out.mono ?_; rintro e w5 ⟨A5, c5, rfl, hc5, hC5, hF5, hB5, hK5⟩) | go_step3)
        clear hF5 hK5
        go_upto_region 12 with (first | (go_at_call 18; refine (hdec _ (Kd.C_below hr0 hB5)).mono ?_; rintro e w6 ⟨v6, rfl, ho6, hb6⟩) | go_step3)
        obtain ⟨A6, c6, e6⟩ := Kd.S_slice ho6
        subst e6
        have hs6 := Kd.R_reads' (Kd.S_R ho6)
        have hsm := lapidaryref03_Same.calls K2 A5 c5 r1 A6 c6 r1 true w6 (Kd.C_below (Kd.F_now hC5) hb6) hc5 hs6.2.2 hs6.2.1 hK2
        have hB6 := below_step hB5 hb6
        go_wp2_with (first | (go_at_call 17; refine hsm.mono ?_; rintro e w7 ⟨rfl, ⟨nd, rfl⟩⟩; have hB7 := pw_below_drewN hB6 nd) | (go_at_call 7; refine (hkn _).mono ?_; rintro e w8 ⟨rfl, hb8⟩) | go_step3)
        go_ret
        exact ⟨rfl, below_step hB7 hb8⟩
end Go.Proofs.Ytglmfnaofpbpfaa.Hf

namespace Go.Proofs.Ytglmfnaofpbpfaa.P
open Go.RowKit Go.Proofs.YtglmfnaofpbpfaaW.PrintWords Go.Proofs.YtglmfnaofpbpfaaW.PrintLast Go.Proofs.YtglmfnaofpbpfaaW.PrintMore Go.Proofs.Ytglmfnaofpbpfaa.X
attribute [local go_sem] max2_int min2_int max_two min_two max_three min_three max_four min_four   -- for this text's walks alone
set_option linter.unusedVariables false
set_option linter.unusedSimpArgs false

/-! ### lapidarylaw04_FeedBytes: function 5 -/
def lapidarylaw04_FeedBytes.f (l0 : List Int) : Option (Bool) := if (∀ x ∈ l0, 0 ≤ x ∧ x ≤ 255) then (some true) else (none)

set_option maxHeartbeats 8000000 in
set_option maxRecDepth 100000 in
theorem lapidarylaw04_FeedBytes.calls (A0 : Option Addr) (c0 : Nat) (l0 : List Int) (r : Bool) (w : World) (hr0 : Kd.C (Kd.int .u8) w A0 l0.length l0) (hc0 : l0.length ≤ c0) (h : lapidarylaw04_FeedBytes.f l0 = some r) :
  Calls Try.prog 5 #[.slice A0 l0.length c0] w fun e w' => e = .returned (.bool r) ∧ Below w.heap.size w w' := by
 unfold lapidarylaw04_FeedBytes.f at h
 by_cases hl : (∀ x ∈ l0, 0 ≤ x ∧ x ≤ 255)
 ·rw [if_pos hl] at h
  obtain rfl := Option.some.inj h
  exact Hf.bytes_calls A0 c0 l0 w hr0 hc0 hl
 ·rw [if_neg hl] at h; cases h

end Go.Proofs.Ytglmfnaofpbpfaa.P

namespace Go.Proofs.Ytglmfnaofpbpfaa.O
set_option linter.unusedVariables false
set_option linter.unusedSimpArgs false
open Go.RowKit Go.Deep Go.ChangeShapes Go.WideShapes Go.Proofs.YtglmfnaofpbpfaaW.PrintWords

/-- Whatever is read at type t is of the kind d, and fine; 'mu': how much it holds. -/
def Opens {α : Type} (P : Program) (t : TypeId) (d : Kd α) (ok : α → Prop) (mu : α → Nat) : Prop :=
  ∀ (H : Type) (enc : TypeId × Value → H) (w : World) (fuel : Nat) (cs : List Value) (x : DataW H × List MemPlace),
    DataW.trod enc P w 0 (fun _ => true) true fuel t cs = some x → ∃ y : α, d.K w y cs ∧ ok y ∧ mu y ≤ Rows.uptoBulk x.1

theorem bulk_one {H : Type} (d : DataW H) : 1 ≤ Rows.uptoBulk d := by
  cases d with
  | lit l => cases l <;> simp [Rows.uptoBulk]
  | _ => simp [Rows.uptoBulk]
theorem opens_int {P : Program} {t : TypeId} {k : IntKind} (ht : P.underlying t = some (.int k)) : Opens P t (Kd.int k) (fun n => (Lit.int k n).wf = true) (fun _ => 1) := by
  intro H enc w fuel cs x h
  obtain ⟨n, rfl, rfl, hw⟩ := DataW.trod_int ht h
  exact ⟨n, rfl, hw, bulk_one _⟩
theorem bulk_range {H : Type} (D : Nat → DataW H) (m : Nat → Nat) : ∀ n, (∀ i, i < n → m i ≤ Rows.uptoBulk (D i)) → ((List.range n).map m).sum ≤ Rows.uptoBulkAll ((List.range n).map D) := by
  have app : ∀ l r : List (DataW H), Rows.uptoBulkAll (l ++ r) = Rows.uptoBulkAll l + Rows.uptoBulkAll r := by
    intro l r
    induction l with
    | nil => simp [Rows.uptoBulkAll]
    | cons x l ih => simp only [List.cons_append, Rows.uptoBulkAll, ih]; omega
  intro n
  induction n with
  | zero => intro _; simp
  | succ n ih =>
    intro h
    have h1 := ih fun i hi => h i (by omega)
    have h2 := h n (by omega)
    rw [List.range_succ, List.map_append, List.map_append, app, List.sum_append]
    simp only [List.map_cons, List.map_nil, List.sum_cons, List.sum_nil, Rows.uptoBulkAll]
    omega
theorem opens_slice {α : Type} [Inhabited α] {P : Program} {t e : TypeId} {d : Kd α} {ok : α → Prop} {mu : α → Nat} (ht : P.underlying t = some (.slice e)) (hs : d.sz = P.cellsOf e) (h : Opens P e d ok mu) :
    Opens P t (Kd.slice e d) (fun l => l.length ≤ maxLen ∧ ∀ x ∈ l, ok x) (fun l => 1 + (l.map mu).sum) := by
  intro H enc w fuel cs x hx
  rcases open_slice ht hx with ⟨rfl, rfl⟩ | ⟨a, len, cap, m, n, D, Pl, rfl, hb, hl, hm, hmm, rfl, hi⟩
  · exact ⟨[], ⟨none, 0, rfl, Nat.le_refl _, rfl, by simp, fun h0 => absurd h0 (by simp)⟩, ⟨by simp, by simp⟩, by simpa using bulk_one _⟩
  · have hle : len ≤ m := by simp at hmm; omega
    obtain ⟨f, hf⟩ := choose_lt (α := α) (n := len) (p := fun i y => ∃ cs', w.cells? 0 (a.add (i * P.cellsOf e)) (P.cellsOf e) = some cs' ∧ d.K w y cs' ∧ ok y ∧ mu y ≤ Rows.uptoBulk (D i)) (fun i hil => by
      obtain ⟨cs', hc, hy⟩ := hi i (by omega)
      obtain ⟨y, hK, ho, hmu⟩ := h H enc w n cs' _ hy
      exact ⟨y, cs', hc, hK, ho, hmu⟩)
    refine ⟨(List.range len).map f, ⟨some a, cap, by simp, by simpa using hl, by simp, by have : maxLen ≤ 9223372036854775807 := by unfold maxLen; omega
                                                                                          simp; omega, fun h0 => ⟨a, rfl, fun j p hj => ?_⟩⟩, ⟨by simp; omega, fun x hx => ?_⟩, ?_⟩
    · rw [List.getElem?_map] at hj
      have hjl : j < len := by
        by_cases hjl : j < len
        · exact hjl
        · rw [List.getElem?_eq_none (by simp; omega)] at hj; simp at hj
      rw [List.getElem?_range hjl] at hj
      simp only [Option.map_some, Option.some.injEq] at hj
      subst hj
      obtain ⟨cs', hc, hK, ho, hmu⟩ := hf j hjl
      obtain ⟨_, hlen, hat⟩ := World.cells?_some hc
      refine ⟨cs', by rw [hs]; exact hlen, hK, fun i u hu => ?_⟩
      have hil : i < P.cellsOf e := by
        have := (List.getElem?_eq_some_iff.1 hu).1; omega
      rw [hs, ← Go.Deep.add_add, hat i hil, hu]
    · simp only [List.mem_map, List.mem_range] at hx
      obtain ⟨i, hil, rfl⟩ := hx
      obtain ⟨_, _, _, ho, _⟩ := hf i hil
      exact ho
    · have := bulk_range D (fun i => mu (f i)) len fun i hil => (hf i hil).choose_spec.2.2.2
      simp only [List.map_map, Rows.uptoBulk]
      have e1 : (List.range len).map (mu ∘ f) = (List.range len).map fun i => mu (f i) := rfl
      rw [e1]
      omega
theorem opens_struct3 {α β γ δ : Type} {P : Program} {t : TypeId} {f0 f1 f2 : Field} {d0 : Kd α} {d1 : Kd β} {d2 : Kd γ} {ok0 : α → Prop} {ok1 : β → Prop} {ok2 : γ → Prop} {mu0 : α → Nat} {mu1 : β → Nat} {mu2 : γ → Nat}
    (hs : P.underlying t = some (.struct #[f0, f1, f2])) (hone : oneCellFields P #[f0, f1, f2] = true) (hC : P.cellsOf t = 3) (h0 : Opens P f0.type d0 ok0 mu0) (h1 : Opens P f1.type d1 ok1 mu1) (h2 : Opens P f2.type d2 ok2 mu2)
    (mk : α → β → γ → δ) (d : Kd δ) (hd : ∀ w y0 y1 y2 c0 c1 c2, d0.K w y0 [c0] → d1.K w y1 [c1] → d2.K w y2 [c2] → d.K w (mk y0 y1 y2) [c0, c1, c2])
    (ok : δ → Prop) (hok : ∀ y0 y1 y2, ok0 y0 → ok1 y1 → ok2 y2 → ok (mk y0 y1 y2)) (mu : δ → Nat) (hmu : ∀ y0 y1 y2, mu (mk y0 y1 y2) ≤ 1 + mu0 y0 + mu1 y1 + mu2 y2) : Opens P t d ok mu := by
  intro H enc w fuel cs x hx
  obtain ⟨xs, n, _, rfl, hcl, hlen, hg⟩ := DataW.trod_struct hs hx
  rw [hC] at hcl
  match cs, hcl with
  | [c0, c1, c2], _ =>
    obtain ⟨o0, k0⟩ := hone_of hone 0 f0 rfl
    obtain ⟨o1, k1⟩ := hone_of hone 1 f1 rfl
    obtain ⟨o2, k2⟩ := hone_of hone 2 f2 rfl
    match xs, hlen with
    | [y0, y1, y2], _ =>
      have g0 : DataW.trod enc P w 0 (fun _ => true) true n f0.type [c0] = some y0 := by simpa [o0, k0] using hg 0 f0 rfl
      have g1 : DataW.trod enc P w 0 (fun _ => true) true n f1.type [c1] = some y1 := by simpa [o1, k1] using hg 1 f1 rfl
      have g2 : DataW.trod enc P w 0 (fun _ => true) true n f2.type [c2] = some y2 := by simpa [o2, k2] using hg 2 f2 rfl
      obtain ⟨z0, K0, O0, M0⟩ := h0 H enc w n _ _ g0
      obtain ⟨z1, K1, O1, M1⟩ := h1 H enc w n _ _ g1
      obtain ⟨z2, K2, O2, M2⟩ := h2 H enc w n _ _ g2
      refine ⟨mk z0 z1 z2, hd w _ _ _ _ _ _ K0 K1 K2, hok _ _ _ O0 O1 O2, Nat.le_trans (hmu _ _ _) ?_⟩
      simp only [List.map_cons, List.map_nil, Rows.uptoBulk, Rows.uptoBulkAll]
      omega
theorem opens_struct2 {α β δ : Type} {P : Program} {t : TypeId} {f0 f1 : Field} {d0 : Kd α} {d1 : Kd β} {ok0 : α → Prop} {ok1 : β → Prop} {mu0 : α → Nat} {mu1 : β → Nat}
    (hs : P.underlying t = some (.struct #[f0, f1])) (hone : oneCellFields P #[f0, f1] = true) (hC : P.cellsOf t = 2) (h0 : Opens P f0.type d0 ok0 mu0) (h1 : Opens P f1.type d1 ok1 mu1)
    (mk : α → β → δ) (d : Kd δ) (hd : ∀ w y0 y1 c0 c1, d0.K w y0 [c0] → d1.K w y1 [c1] → d.K w (mk y0 y1) [c0, c1])
    (ok : δ → Prop) (hok : ∀ y0 y1, ok0 y0 → ok1 y1 → ok (mk y0 y1)) (mu : δ → Nat) (hmu : ∀ y0 y1, mu (mk y0 y1) ≤ 1 + mu0 y0 + mu1 y1) : Opens P t d ok mu := by
  intro H enc w fuel cs x hx
  obtain ⟨xs, n, _, rfl, hcl, hlen, hg⟩ := DataW.trod_struct hs hx
  rw [hC] at hcl
  match cs, hcl with
  | [c0, c1], _ =>
    obtain ⟨o0, k0⟩ := hone_of hone 0 f0 rfl
    obtain ⟨o1, k1⟩ := hone_of hone 1 f1 rfl
    match xs, hlen with
    | [y0, y1], _ =>
      have g0 : DataW.trod enc P w 0 (fun _ => true) true n f0.type [c0] = some y0 := by simpa [o0, k0] using hg 0 f0 rfl
      have g1 : DataW.trod enc P w 0 (fun _ => true) true n f1.type [c1] = some y1 := by simpa [o1, k1] using hg 1 f1 rfl
      obtain ⟨z0, K0, O0, M0⟩ := h0 H enc w n _ _ g0
      obtain ⟨z1, K1, O1, M1⟩ := h1 H enc w n _ _ g1
      refine ⟨mk z0 z1, hd w _ _ _ _ K0 K1, hok _ _ O0 O1, Nat.le_trans (hmu _ _) ?_⟩
      simp only [List.map_cons, List.map_nil, Rows.uptoBulk, Rows.uptoBulkAll]
      omega
end Go.Proofs.Ytglmfnaofpbpfaa.O

namespace Go.Proofs.Ytglmfnaofpbpfaa.P
open Go.RowKit Go.Proofs.Ytglmfnaofpbpfaa.O Go.Proofs.YtglmfnaofpbpfaaW.PrintWords Go.Proofs.YtglmfnaofpbpfaaW.PrintLast
instance inh48 : Inhabited S48 := ⟨z48⟩
def ok48 (x : S48) : Prop := (fun n => (Lit.int .i64 n).wf = true) x.f0 ∧ (fun l => l.length ≤ maxLen ∧ ∀ x ∈ l, (fun n => (Lit.int .u8 n).wf = true) x) x.f1
def mu48 (x : S48) : Nat := 1 + (fun _ => 1) x.f0 + (fun l => 1 + (l.map (fun _ => 1)).sum) x.f1
theorem op48 : Opens Try.prog 48 k48 ok48 mu48 :=
  opens_struct2 Try.underlying48 (by kernel_rfl) (by kernel_rfl) (opens_int Try.underlying3) (opens_slice (e := 5) Try.underlying22 (by kernel_rfl) (opens_int Try.underlying5)) (fun a b => ⟨a, b⟩) k48 (fun w y0 y1 c0 c1 h0 h1 => ⟨[c0], [c1], rfl, h0, h1⟩) ok48 (fun _ _ a b => ⟨a, b⟩) mu48 (fun _ _ => Nat.le_refl _)
end Go.Proofs.Ytglmfnaofpbpfaa.P
