/- In whichever parts bytes come, they have one checksum: the walk over the law. No condition. -/
import Derived.Test.YteiimfmanfafhaaCB
import Derived.Test.YteiimfmanfafhaaCK
import Derived.Test.YteiimfmanfafhaaCS
namespace Go.Proofs.Yteiimfmanfafhaa.C
set_option linter.unusedVariables false
set_option linter.unusedSimpArgs false
open Go.RowKit Go.Proofs.YteiimfmanfafhaaW.PrintWords

theorem addV_append (a b : List Int) (r : Int) : addV (a ++ b) r = addV b (addV a r) := by unfold addV; rw [List.foldl_append]
theorem allV_flat : ∀ (ls : List (List Int)) (r : Int), allV ls r = addV ls.flatten r := by
  intro ls
  induction ls with
  | nil => intro r; rfl
  | cons a t ih =>
    intro r
    show allV t (addV a r) = _
    rw [ih, List.flatten_cons, addV_append]
theorem own_same {w w' : World} {base e s n B : Nat} {v : Value} {xs : List Value} (h : w.ownsRow base e s v n xs) (hg : w.grownBy w' (some B)) (hne : some B ≠ v.ownBlock) : w'.ownsRow base e s v n xs := by
  obtain ⟨h1, h2⟩ := h
  refine ⟨h1, ?_⟩
  rcases h2 with h2 | ⟨g, cap, cur, rfl, hb, hh, r⟩
  · exact Or.inl h2
  · refine Or.inr ⟨g, cap, cur, rfl, hb, ?_, r⟩
    rw [hg.block g (by rcases Nat.lt_or_ge g w.heap.size with h | h; exact h; rw [Array.getElem?_eq_none h] at hh; cases hh) (fun e => hne e.symm)]
    exact hh
theorem R_same {w w' : World} {base B : Nat} {v : Value} {xs : List Int} (h : Kd.R (Kd.int .u8) 5 w base (fun j => j ≠ B) v xs) (hg : w.grownBy w' (some B)) : Kd.R (Kd.int .u8) 5 w' base (fun j => j ≠ B) v xs :=
  Kd.R_of_own (enc := Value.int .u8) (h1 := fun _ => rfl) (own_same (Kd.own_of_R (enc := Value.int .u8) (h1 := fun _ => rfl) h) hg (fun e => h.1 B e.symm rfl)) h.1
theorem lt_of_some {w : World} {B : Nat} {o : Obj} (h : w.heap[B]? = some o) : B < w.heap.size := by
  rcases Nat.lt_or_ge B w.heap.size with h' | h'
  · exact h'
  · rw [Array.getElem?_eq_none h'] at h; cases h
set_option maxHeartbeats 8000000 in
set_option maxRecDepth 100000 in
theorem parts_calls (A : Option Addr) (c : Nat) (ls : List (List Int)) (w : World) (hr : Kd.C (Kd.slice 5 (Kd.int .u8)) w A ls.length ls) (hsz : ∀ x ∈ ls, x.length ≤ 1048576) : Calls Try.prog 5 #[.slice A ls.length c] w fun e w' => e = .returned (.bool true) ∧ Below w.heap.size w w' := by
  have hl : ls.length ≤ 9223372036854775807 := hr.2.1
  go_enter Try.func5, Try.ntmps5
  go_wp2_with (go_at_call 13; refine (new_calls _).mono ?_; rintro e w1 ⟨rfl, rfl⟩)
  have hs1 : ((w.alloc (.cells (arr 256) 46)).alloc (.cells (sumC 4294967295 0) 49)).heap[w.heap.size + 1]? = some (.cells (sumC 4294967295 0) 49 (0, 0)) := heap_alloc2_new w _ _
  have hb1 : Below w.heap.size w ((w.alloc (.cells (arr 256) 46)).alloc (.cells (sumC 4294967295 0) 49)) := ((Below.refl _ w).alloc (Nat.le_refl _) _).alloc (by simp) _
  generalize (w.alloc (.cells (arr 256) 46)).alloc (.cells (sumC 4294967295 0) 49) = w1 at hs1 hb1 ⊢
  have hB : w.heap.size ≤ w.heap.size + 1 := by omega
  generalize w.heap.size + 1 = B at hs1 hB ⊢
  go_wp2
  go_loopw [3, 5] (fun va i wr => ∃ k : Nat, k ≤ ls.length ∧ i = .int .i64 k ∧ Kd.R (Kd.int .u8) 5 wr w.heap.size (fun j => j ≠ B) va (ls.take k).flatten ∧ (ls.take k).flatten.length ≤ 3000 ∧ Below w.heap.size w wr ∧ wr.heap[B]? = some (.cells (sumC (allV (ls.take k) 4294967295) ((ls.take k).flatten.length : Int)) 49 (0, 0))) (fun _ i _ => ls.length - (intOf i).toNat)
  case atStart => exact ⟨0, by omega, rfl, Kd.R_nil _ _ _ _ _, by simp, hb1, hs1⟩
  case round =>
    obtain ⟨k, hk, rfl, hR, hq, hbk, hsk⟩ := hrel
    have hall : allV (ls.take k) 4294967295 = addV (ls.take k).flatten 4294967295 := allV_flat _ _
    rw [hall] at hsk
    obtain ⟨l, hlq⟩ : ∃ l, (ls.take k).flatten = l := ⟨_, rfl⟩
    rw [hlq] at hR hq hsk
    obtain ⟨Ao, co, eo⟩ := Kd.R_slice hR
    subst eo
    rcases Nat.lt_or_ge k ls.length with hlt | hge
    · have hki : (k : Int) < (ls.length : Int) := by omega
      obtain ⟨ad, cs, hA, _, hx, hc⟩ := Kd.C_get hr [] (k : Int) (by omega) hki
      subst hA
      obtain ⟨A1, c1, e1, hc1, hr1⟩ := hx
      subst e1
      have hc0 := hc 0 _ rfl
      have e0 : (Int.toNat (k : Int)) * (Kd.slice 5 (Kd.int IntKind.u8)).sz + 0 = k := by
        have : (Kd.slice 5 (Kd.int IntKind.u8)).sz = 1 := rfl
        rw [this]; omega
      rw [e0] at hc0
      rw [show (Int.toNat (k : Int)) = k by omega] at hc0 hr1 hc1
      have hcell : wr.cell? (ad.add k) = some (.slice A1 (ls.getD k []).length c1) := (hbk.cell (World.block_lt_of_cell? w _ hc0)).trans hc0
      have hstep : (ls.take (k + 1)).flatten = (ls.take k).flatten ++ ls.getD k [] := by
        rw [List.take_succ_eq_append_getElem hlt, List.flatten_append]; simp [hlt]
      have hall2 : allV (ls.take (k + 1)) 4294967295 = addV (ls.take (k + 1)).flatten 4294967295 := allV_flat _ _
      have hxl : (ls.getD k []).length ≤ 1048576 := by
        have : ls.getD k [] = ls[k] := by simp [hlt]
        rw [this]; exact hsz _ (List.getElem_mem hlt)
      obtain ⟨x, hx⟩ : ∃ x, ls.getD k [] = x := ⟨_, rfl⟩
      rw [hx] at hcell hr1 hc1 hstep hxl
      rw [hlq] at hstep
      have hcw : ∀ u : World, Below w.heap.size w u → u.cell? (ad.add k) = some (.slice A1 x.length c1) := fun u hu => (hu.cell (World.block_lt_of_cell? w _ hc0)).trans (by rw [hc0, hx])
      clear hc0 hc e0 hx
      by_cases hbig : l.length + x.length > 3000
      · have hbi : (l.length : Int) + (x.length : Int) > 3000 := by omega
        go_wp2_with (go_at_call 8; refine (known_calls _).mono ?_; rintro e w2 ⟨rfl, hb2⟩)
        go_ret
        exact ⟨rfl, below_step hbk hb2⟩
      · have hbi : ¬ (l.length : Int) + (x.length : Int) > 3000 := by omega
        have hlt' : B < wr.heap.size := by
          rcases Nat.lt_or_ge B wr.heap.size with h | h
          · exact h
          · rw [Array.getElem?_eq_none h] at hsk; cases hsk
        have hne : some B ≠ (Value.slice Ao l.length co).ownBlock := fun e => hR.1 B e.symm rfl
        obtain ⟨lx, hlx⟩ : ∃ lx, l ++ x = lx := ⟨_, rfl⟩
        have hof : ofV [lx] = not32 (addV x (addV l 4294967295)) := by
          rw [← hlx]
          show not32 (addV (l ++ x) 4294967295) = _
          rw [addV_append]
        have hwl : wrap64 ((l.length : Int) + (x.length : Int)) = (lx.length : Int) := by rw [← hlx, List.length_append]; unfold wrap64; omega
        go_wp2_with (first | ((with_reducible refine gate_builtin (b := .append) (xs := #[.tmp 26, .tmp 30]) rfl ?_); at_builtin; refine Kd.R_append_rows (Kd.int .u8) (w0 := w) w.heap.size rfl (.tmp 26) (.tmp 30) 22 5 (.int .u8 0) 1 rfl Try.underlying22 inf5 rfl (by decide) (by omega) (.slice Ao l.length co) l x _ _ _ (fun j => j ≠ B) (fun _ => False) rfl rfl ?aO ?aR (fun _ _ h => h) (fun _ h => h.elim) ?aF ?aB ?aS ?aL ?_; (case aR => exact Kd.C_below hr1 hbk); (case aB => exact hbk); (case aF => exact (fun j hj => by omega)); (case aO => exact hR); (case aS => exact below_size hbk); (case aL => omega); intro v1 w1 ho1 hb1' hg1 hat1; have hs1' := (hg1.block B hlt' hne).trans hsk; have hcell1 := hcw w1 hb1'; clear hat1 hcell; rw [hlx] at ho1; obtain ⟨Ao1, co1, eo1⟩ := Kd.R_slice ho1; subst eo1) | (go_at_call 14; refine (add_more B A1 c1 x (addV l 4294967295) (l.length : Int) w w1 hb1' hB hs1' hr1).mono ?_; rintro e w2 ⟨rfl, hb2, hs2, hg2⟩; have ho2 := R_same ho1 hg2; rw [hwl] at hs2; have hK2 := C_row1 _ w2.heap.size Ao1 co1 lx _ 22 (0, 0) (heap_alloc_new w2 (.cells #[.slice Ao1 lx.length co1] 22)) rfl (Kd.C_alloc (Kd.R_reads' ho2).2.2 _) (Kd.R_reads' ho2).2.1; have hs3 : (w2.alloc (.cells #[.slice Ao1 lx.length co1] 22)).heap[B]? = some (.cells (sumC (addV x (addV l 4294967295)) (lx.length : Int)) 49 (0, 0)) := (heap_alloc_old _ _ (lt_of_some hs2)).trans hs2) | (go_at_call 15; refine (sum_calls B (addV x (addV l 4294967295)) _ w2 hs2).mono ?_; rintro e w3 ⟨rfl, rfl⟩) | (go_at_call 12; refine (of_calls _ 1 [lx] _ hK2).mono ?_; rintro e w4 ⟨he, hb4⟩; rw [hof] at he; subst he; have hs4 := (hb4.block B (lt_of_some hs3)).trans hs3; have ho4 := Kd.R_below (Kd.R_alloc ho2 (.cells #[.slice Ao1 lx.length co1] 22)) hb4; have hb5 := below_step (below_alloc hb2 (.cells #[.slice Ao1 lx.length co1] 22)) hb4) | (go_at_call 16; refine (len_calls B _ _ w4 hs4).mono ?_; rintro e w5 ⟨rfl, rfl⟩))
        go_roundw
        case rel =>
          refine ⟨k + 1, by omega, rfl, ?_, ?_, hb5, ?_⟩
          · rw [hstep, hlx]; exact ho4
          · rw [hstep, List.length_append]; omega
          · rw [hall2, hstep, addV_append, hlx]; exact hs4
        case measure => simp [intOf]; omega
    · have ek : k = ls.length := by omega
      subst ek
      rw [List.take_length] at hlq
      have hof0 : ofV [l] = ofV ls := by
        show not32 (addV l 4294967295) = not32 (allV ls 4294967295)
        rw [allV_flat, hlq]
      obtain ⟨T, hT⟩ : ∃ T, ofV ls = T := ⟨_, rfl⟩
      have hof : ofV [l] = T := hof0.trans hT
      clear hof0 hall
      have hrw := Kd.C_below hr hbk
      go_wp2_with (first | (go_at_call 12; refine (of_calls _ 1 [l] _ hK2).mono ?_; rintro e w4 ⟨he, hb4⟩; rw [hof] at he; subst he; have hb5 := below_step (below_alloc hb3 (.cells #[.slice Ao l.length co] 22)) hb4) | (go_at_call 14; refine (add_nil _ _).mono ?_; rintro e w1 ⟨rfl, rfl⟩) | (go_at_call 12; refine (of_calls A c ls _ hrw).mono ?_; rintro e w2 ⟨he, hb2⟩; rw [hT] at he; subst he; have ho2 := Kd.R_below hR hb2; have hb3 := below_step hbk hb2; have hK2 := C_row1 _ w2.heap.size Ao co l _ 22 (0, 0) (heap_alloc_new w2 (.cells #[.slice Ao l.length co] 22)) rfl (Kd.C_alloc (Kd.R_reads' ho2).2.2 _) (Kd.R_reads' ho2).2.1) | (go_at_call 16; refine (len_nil _).mono ?_; rintro e w5 ⟨rfl, rfl⟩) | (go_at_call 15; refine (sum_nil _).mono ?_; rintro e w6 ⟨rfl, rfl⟩) | (go_at_call 8; refine (known_calls _).mono ?_; rintro e w7 ⟨rfl, hb7⟩))
      go_ret
      exact ⟨rfl, below_step hb5 hb7⟩
end Go.Proofs.Yteiimfmanfafhaa.C
