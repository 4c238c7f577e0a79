/- Of three rows of as many bytes the checksum of their xor is the xor of their checksums: the walk over the law. No condition. -/
import Derived.Test.YteiimfmanfafhaaCK
import Derived.Test.YteiimfmanfafhaaCS
import Derived.Test.YteiimfmanfafhaaCX
import Derived.Test.YteiimfmanfafhaaV0
import Derived.StillTailTactics
namespace Go.Proofs.Yteiimfmanfafhaa.C
set_option linter.unusedVariables false
set_option linter.unusedSimpArgs false
open Go.RowKit Go.Proofs.YteiimfmanfafhaaW.PrintWords Go.Proofs.YteiimfmanfafhaaW.PrintLast Go.Proofs.YteiimfmanfafhaaW.PrintMore
attribute [local go_sem] max2_int min2_int max_two min_two max_three min_three max_four min_four

theorem C_take {w : World} {A : Option Addr} {l y : List Int} (h : Kd.C (Kd.int .u8) w A l.length l) {k : Nat} (hy : l.take k = y) : Kd.C (Kd.int .u8) w A y.length y := by
  subst hy
  refine ⟨rfl, by have := h.2.1; rw [List.length_take]; omega, fun hp => ?_⟩
  rw [List.length_take] at hp
  obtain ⟨ad, e, hc⟩ := h.2.2 (by omega)
  refine ⟨ad, e, fun j p hj => ?_⟩
  rw [List.getElem?_take] at hj
  split at hj
  · exact hc j p hj
  · cases hj
theorem of_one (g : Nat) (Y : List Int) (T : Int) (w : World) (hr : Kd.C (Kd.slice 5 (Kd.int .u8)) w (some ⟨g, 0, none⟩) 1 [Y]) (hT : ofV [Y] = T) : Calls Try.prog 12 #[.slice (some ⟨g, 0, none⟩) 1 1] w fun e w' => e = .returned (.int .u32 T) ∧ Below w.heap.size w w' := by
  subst hT
  exact of_calls (some ⟨g, 0, none⟩) 1 [Y] w hr
set_option maxHeartbeats 8000000 in
set_option maxRecDepth 100000 in
theorem linear_calls (A0 A1 A2 : Option Addr) (c0 c1 c2 : Nat) (l0 l1 l2 : List Int) (w : World) (hr0 : Kd.C (Kd.int .u8) w A0 l0.length l0) (hc0 : l0.length ≤ c0) (hr1 : Kd.C (Kd.int .u8) w A1 l1.length l1) (hc1 : l1.length ≤ c1) (hr2 : Kd.C (Kd.int .u8) w A2 l2.length l2) (hc2 : l2.length ≤ c2) (hw0 : ∀ c ∈ l0, 0 ≤ c ∧ c ≤ 255) (hw1 : ∀ c ∈ l1, 0 ≤ c ∧ c ≤ 255) (hw2 : ∀ c ∈ l2, 0 ≤ c ∧ c ≤ 255) :
    Calls Try.prog 4 #[.slice A0 l0.length c0, .slice A1 l1.length c1, .slice A2 l2.length c2] w fun e w' => e = .returned (.bool true) ∧ Below w.heap.size w w' := by
  have m0 : l0.length ≤ 9223372036854775807 := hr0.2.1
  have m1 : l1.length ≤ 9223372036854775807 := hr1.2.1
  have m2 : l2.length ≤ 9223372036854775807 := hr2.2.1
  obtain ⟨j4, hj4⟩ : ∃ j : Int, (if l1.length < l0.length then (l1.length : Int) else (l0.length : Int)) = j := ⟨_, rfl⟩
  obtain ⟨j5, hj5⟩ : ∃ j : Int, (if (l2.length : Int) < j4 then (l2.length : Int) else j4) = j := ⟨_, rfl⟩
  have q4 : 0 ≤ j4 ∧ j4 ≤ l0.length ∧ j4 ≤ l1.length := by subst hj4; split <;> omega
  have q5 : 0 ≤ j5 ∧ j5 ≤ l0.length ∧ j5 ≤ l1.length ∧ j5 ≤ l2.length := by subst hj5; split <;> omega
  obtain ⟨n, rfl⟩ := Int.eq_ofNat_of_zero_le q5.1
  have k0 : n ≤ l0.length := by omega
  have k1 : n ≤ l1.length := by omega
  have k2 : n ≤ l2.length := by omega
  by_cases hbig : n > 2000
  · have hbi : (n : Int) > 2000 := by omega
    go_enter Try.func4, Try.ntmps4
    go_wp2_with (go_at_call 8; refine (known_calls _).mono ?_; rintro e w2 ⟨rfl, hb2⟩)
    go_ret
    exact ⟨rfl, hb2⟩
  · have hbi : ¬ (n : Int) > 2000 := by omega
    go_enter Try.func4, Try.ntmps4
    go_wp2_with (first | ((with_reducible refine gate_dst (N := 21) rfl ?_); refine Kd.R_make (Kd.int .u8) _ 5 rfl (N := 21) rfl 22 _ _ rfl (n : Int) rfl rfl Try.underlying22 (.int .u8 0) 1 inf5 rfl (by decide) (by omega) 0 (ok := fun _ => True) (okp := fun _ => True) rfl (fun _ hk => hk) trivial (by omega) (by rw [Int.toNat_natCast]; omega) (Below.refl _ _) (Nat.le_refl _) ?_; intro v8 w1 ho1 hb1 hg1 hnew1; clear hg1 hnew1))
    rw [Int.toNat_natCast, xL_zero l0 l1 l2 n] at ho1
    go_loopw [9] (fun i wr => ∃ k : Nat, k ≤ n ∧ i = .int .i64 k ∧ Below w.heap.size w wr ∧ Kd.R (Kd.int .u8) 5 wr w.heap.size (fun _ => True) v8 (xL l0 l1 l2 n k)) (fun i _ => n - (intOf i).toNat)
    case atStart => exact ⟨0, by omega, rfl, hb1, ho1⟩
    case round =>
      obtain ⟨k, hk, rfl, hbk, hR⟩ := hrel
      rcases Nat.lt_or_ge k n with hlt | hge
      · have hki : (k : Int) < (n : Int) := by omega
        obtain ⟨ad0, e0, x0⟩ := Kd.at_int (Kd.C_below hr0 hbk) (k : Int) (by omega) (by omega)
        obtain ⟨ad1, e1, x1⟩ := Kd.at_int (Kd.C_below hr1 hbk) (k : Int) (by omega) (by omega)
        obtain ⟨ad2, e2, x2⟩ := Kd.at_int (Kd.C_below hr2 hbk) (k : Int) (by omega) (by omega)
        subst e0 e1 e2
        obtain ⟨g, co, ev, hgb, hgl, _⟩ := Kd.R_form hR (by rw [xL_len]; omega)
        rw [xL_len] at ev
        subst ev
        obtain ⟨hx, hf⟩ := Kd.R_celln 0 hR (k : Int) (by omega) hki
        rw [Int.toNat_natCast] at x0 x1 x2 hx hf
        have i0 : (k : Int) < (l0.length : Int) := by omega
        have i1 : (k : Int) < (l1.length : Int) := by omega
        have i2 : (k : Int) < (l2.length : Int) := by omega
        go_wp2
        go_still_tail 17, (by kernel_rfl)
        change wpList _ _ _ _ _ wr.drew
        have hx' : wr.drew.cell? ⟨g, k, none⟩ = some (.int .u8 (rdOf 0 (xL l0 l1 l2 n k) (k : Int))) := hx
        have hf' : wr.drew.frozen? ⟨g, k, none⟩ = false := hf
        have hbd : Below w.heap.size w wr.drew := hbk.drew
        have hRd := Kd.R_putn (Kd.R_drew hR) (k : Int) (xB l0 l1 l2 k)
        rw [Int.toNat_natCast, xL_set l0 l1 l2 n k hlt] at hRd
        generalize wr.drew = wd at hx' hf' hbd hRd ⊢
        clear hx hf x0 x1 x2 hR hbk
        go_wp2
        go_roundw
        case rel => exact ⟨k + 1, by omega, rfl, hbd.setCell hgb _, hRd⟩
        case measure => simp [intOf]; omega
      · have ek : k = n := by omega
        subst ek
        have hlx := xL_len l0 l1 l2 k k
        obtain ⟨xs, hxs⟩ : ∃ xs, xL l0 l1 l2 k k = xs := ⟨_, rfl⟩
        rw [hxs] at hR hlx
        obtain ⟨Ao, co, ev⟩ := Kd.R_slice hR
        subst ev
        obtain ⟨y0, hy0⟩ : ∃ y, l0.take k = y := ⟨_, rfl⟩
        obtain ⟨y1, hy1⟩ : ∃ y, l1.take k = y := ⟨_, rfl⟩
        obtain ⟨y2, hy2⟩ : ∃ y, l2.take k = y := ⟨_, rfl⟩
        have n0 : y0.length = k := by rw [← hy0, List.length_take]; omega
        have n1 : y1.length = k := by rw [← hy1, List.length_take]; omega
        have n2 : y2.length = k := by rw [← hy2, List.length_take]; omega
        obtain ⟨T0, hT0⟩ : ∃ T, ofV [xs] = T := ⟨_, rfl⟩
        obtain ⟨T1, hT1⟩ : ∃ T, ofV [y0] = T := ⟨_, rfl⟩
        obtain ⟨T2, hT2⟩ : ∃ T, ofV [y1] = T := ⟨_, rfl⟩
        obtain ⟨T3, hT3⟩ : ∃ T, ofV [y2] = T := ⟨_, rfl⟩
        have heq : (T0 == Go.bits .xor .u32 (Go.bits .xor .u32 T1 T2) T3) = true := by
          rw [← hT0, ← hT1, ← hT2, ← hT3, ← hxs, ← hy0, ← hy1, ← hy2]
          exact linear_eq l0 l1 l2 k (by omega) (by omega) (by omega) hw0 hw1 hw2
        have K0 : Kd.C (Kd.int .u8) wr.drew Ao xs.length xs := Kd.C_drew (Kd.R_reads' hR).2.2
        have K1 : Kd.C (Kd.int .u8) wr.drew A0 y0.length y0 := Kd.C_drew (Kd.C_below (C_take hr0 hy0) hbk)
        have K2 : Kd.C (Kd.int .u8) wr.drew A1 y1.length y1 := Kd.C_drew (Kd.C_below (C_take hr1 hy1) hbk)
        have K3 : Kd.C (Kd.int .u8) wr.drew A2 y2.length y2 := Kd.C_drew (Kd.C_below (C_take hr2 hy2) hbk)
        have hcap0 : xs.length ≤ co := (Kd.R_reads' hR).2.1
        have hcap1 : y0.length ≤ c0 := by omega
        have hcap2 : y1.length ≤ c1 := by omega
        have hcap3 : y2.length ≤ c2 := by omega
        obtain ⟨i5, hi5, _, hz5, _⟩ := info_parts inf5
        have hcut0 : ∀ W : World, (Instr.slice 22 (.slice A0 l0.length c0) none (some (.int .i64 (k : Int))) none).run Try.prog W = .ok (.slice A0 y0.length c0) W := fun W => by
          rw [n0]; exact cut_to (P := Try.prog) 22 5 .i64 Try.underlying22 hi5 A0 l0.length c0 (k : Int) (by omega) (by omega) hc0 W
        have hcut1 : ∀ W : World, (Instr.slice 22 (.slice A1 l1.length c1) none (some (.int .i64 (k : Int))) none).run Try.prog W = .ok (.slice A1 y1.length c1) W := fun W => by
          rw [n1]; exact cut_to (P := Try.prog) 22 5 .i64 Try.underlying22 hi5 A1 l1.length c1 (k : Int) (by omega) (by omega) hc1 W
        have hcut2 : ∀ W : World, (Instr.slice 22 (.slice A2 l2.length c2) none (some (.int .i64 (k : Int))) none).run Try.prog W = .ok (.slice A2 y2.length c2) W := fun W => by
          rw [n2]; exact cut_to (P := Try.prog) 22 5 .i64 Try.underlying22 hi5 A2 l2.length c2 (k : Int) (by omega) (by omega) hc2 W
        have hbk := hbk.drew
        go_wp2
        --REGION9
        refine start_ (n := 25) (S := fun w' => True) (ds := []) #[false, false, false, false, false, false, false, false, false, false, false, false, false, false, false, false, false, false, false, false, false, false, false, false, false] (by kernel_rfl) rfl rfl trivial (fun hHeld => ?_)
        generalize wr.drew = W0 at K0 K1 K2 K3 hbk ⊢
        refine pure_ (i := 0) (N := some 44) (v := ?_) (a' := ?_) #[true, false, false, false, false, false, false, false, false, false, false, false, false, false, false, false, false, false, false, false, false, false, false, false, false] rfl rfl (by kernel_rfl) (fun _ _ _ h => h) (Or.inl ⟨by rfl, ?_⟩) ?_ ?_
        rotate_left
        · intro w'
          go_simp
          with_reducible rfl
        rotate_left
        · simp only [Act.put, List.setIfInBounds_toArray, List.set_cons_zero, List.set_cons_succ, i64_w, i32_w]
          rfl
        refine pure_ (i := 3) (N := some 47) (v := ?_) (a' := ?_) #[true, false, false, true, false, false, false, false, false, false, false, false, false, false, false, false, false, false, false, false, false, false, false, false, false] rfl rfl (by kernel_rfl) (fun _ _ _ h => h) (Or.inl ⟨by rfl, ?_⟩) ?_ ?_
        rotate_left
        · intro w'
          go_simp
          with_reducible rfl
        rotate_left
        · simp only [Act.put, List.setIfInBounds_toArray, List.set_cons_zero, List.set_cons_succ, i64_w, i32_w]
          rfl
        refine pure_ (i := 4) (N := some 48) (v := ?_) (a' := ?_) #[true, false, false, true, true, false, false, false, false, false, false, false, false, false, false, false, false, false, false, false, false, false, false, false, false] rfl rfl (by kernel_rfl) (fun _ _ _ h => h) (Or.inl ⟨by rfl, ?_⟩) ?_ ?_
        rotate_left
        · intro w'
          go_simp
          with_reducible rfl
        rotate_left
        · simp only [Act.put, List.setIfInBounds_toArray, List.set_cons_zero, List.set_cons_succ, i64_w, i32_w]
          rfl
        refine pure_ (i := 5) (N := some 49) (v := ?_) (a' := ?_) #[true, false, false, true, true, true, false, false, false, false, false, false, false, false, false, false, false, false, false, false, false, false, false, false, false] rfl rfl (by kernel_rfl) (fun _ _ _ h => h) (Or.inl ⟨by rfl, ?_⟩) ?_ ?_
        rotate_left
        · intro w'
          go_simp
          with_reducible rfl
        rotate_left
        · simp only [Act.put, List.setIfInBounds_toArray, List.set_cons_zero, List.set_cons_succ, i64_w, i32_w]
          rfl
        refine pure_ (i := 8) (N := some 52) (v := ?_) (a' := ?_) #[true, false, false, true, true, true, false, false, true, false, false, false, false, false, false, false, false, false, false, false, false, false, false, false, false] rfl rfl (by kernel_rfl) (fun _ _ _ h => h) (Or.inl ⟨by rfl, ?_⟩) ?_ ?_
        rotate_left
        · intro w'
          go_simp
          with_reducible rfl
        rotate_left
        · simp only [Act.put, List.setIfInBounds_toArray, List.set_cons_zero, List.set_cons_succ, i64_w, i32_w]
          rfl
        refine pure_ (i := 9) (N := some 53) (v := ?_) (a' := ?_) #[true, false, false, true, true, true, false, false, true, true, false, false, false, false, false, false, false, false, false, false, false, false, false, false, false] rfl rfl (by kernel_rfl) (fun _ _ _ h => h) (Or.inl ⟨by rfl, ?_⟩) ?_ ?_
        rotate_left
        · intro w'
          go_simp
          with_reducible rfl
        rotate_left
        · simp only [Act.put, List.setIfInBounds_toArray, List.set_cons_zero, List.set_cons_succ, i64_w, i32_w]
          rfl
        refine pure_ (i := 10) (N := some 54) (v := ?_) (a' := ?_) #[true, false, false, true, true, true, false, false, true, true, true, false, false, false, false, false, false, false, false, false, false, false, false, false, false] rfl rfl (by kernel_rfl) (fun _ _ _ h => h) (Or.inl ⟨by rfl, ?_⟩) ?_ ?_
        rotate_left
        · intro w'
          go_simp
          with_reducible rfl
        rotate_left
        · simp only [Act.put, List.setIfInBounds_toArray, List.set_cons_zero, List.set_cons_succ, i64_w, i32_w]
          rfl
        refine pure_ (i := 14) (N := some 58) (v := ?_) (a' := ?_) #[true, false, false, true, true, true, false, false, true, true, true, false, false, false, true, false, false, false, false, false, false, false, false, false, false] rfl rfl (by kernel_rfl) (fun _ _ _ h => h) (Or.inl ⟨by rfl, ?_⟩) ?_ ?_
        rotate_left
        · intro w'
          go_simp
          with_reducible rfl
        rotate_left
        · simp only [Act.put, List.setIfInBounds_toArray, List.set_cons_zero, List.set_cons_succ, i64_w, i32_w]
          rfl
        refine pure_ (i := 15) (N := some 59) (v := ?_) (a' := ?_) #[true, false, false, true, true, true, false, false, true, true, true, false, false, false, true, true, false, false, false, false, false, false, false, false, false] rfl rfl (by kernel_rfl) (fun _ _ _ h => h) (Or.inl ⟨by rfl, ?_⟩) ?_ ?_
        rotate_left
        · intro w'
          go_simp
          with_reducible rfl
        rotate_left
        · simp only [Act.put, List.setIfInBounds_toArray, List.set_cons_zero, List.set_cons_succ, i64_w, i32_w]
          rfl
        refine pure_ (i := 16) (N := some 60) (v := ?_) (a' := ?_) #[true, false, false, true, true, true, false, false, true, true, true, false, false, false, true, true, true, false, false, false, false, false, false, false, false] rfl rfl (by kernel_rfl) (fun _ _ _ h => h) (Or.inl ⟨by rfl, ?_⟩) ?_ ?_
        rotate_left
        · intro w'
          go_simp
          with_reducible rfl
        rotate_left
        · simp only [Act.put, List.setIfInBounds_toArray, List.set_cons_zero, List.set_cons_succ, i64_w, i32_w]
          rfl
        refine join_ (σ := Nat × Nat × Nat × Nat) 6 #[true, true, true, true, true, true, true, true, true, true, true, true, true, true, true, true, true, true, true, false, false, false, false, false, false] (fun s_ => [(45, .slice (some ⟨s_.1, 0, none⟩) 1 1), (46, .int .u32 T0), (50, .slice (some ⟨s_.2.1, 0, none⟩) 1 1), (51, .int .u32 T1), (55, .slice (some ⟨s_.2.2.1, 0, none⟩) 1 1), (56, .int .u32 T2), (61, .slice (some ⟨s_.2.2.2, 0, none⟩) 1 1), (62, .int .u32 T3), (57, .int .u32 (Go.bits .xor .u32 T1 T2))]) (fun s_ w' => Below W0.heap.size W0 w') ?_ ?_
        rotate_left
        · intro hJ1_2_6_7_11_12_17_18
          refine join_ (σ := Nat × Nat × Nat × Nat) 7 #[true, true, true, true, true, true, true, true, true, true, true, true, true, true, true, true, true, true, false, false, false, false, false, false, false] (fun s_ => [(45, .slice (some ⟨s_.1, 0, none⟩) 1 1), (46, .int .u32 T0), (50, .slice (some ⟨s_.2.1, 0, none⟩) 1 1), (51, .int .u32 T1), (55, .slice (some ⟨s_.2.2.1, 0, none⟩) 1 1), (56, .int .u32 T2), (61, .slice (some ⟨s_.2.2.2, 0, none⟩) 1 1), (57, .int .u32 (Go.bits .xor .u32 T1 T2))]) (fun s_ w' => Below W0.heap.size W0 w' ∧ (Kd.C (Kd.slice 5 (Kd.int .u8)) w' (some ⟨s_.2.2.2, 0, none⟩) 1 [y2])) ?_ ?_
          rotate_left
          · intro hJ1_2_6_7_11_12_17
            refine join_ (σ := Nat × Nat × Nat) 8 #[true, true, true, true, true, true, true, true, true, true, true, true, true, true, true, true, true, false, false, false, false, false, false, false, false] (fun s_ => [(45, .slice (some ⟨s_.1, 0, none⟩) 1 1), (46, .int .u32 T0), (50, .slice (some ⟨s_.2.1, 0, none⟩) 1 1), (51, .int .u32 T1), (55, .slice (some ⟨s_.2.2, 0, none⟩) 1 1), (56, .int .u32 T2), (57, .int .u32 (Go.bits .xor .u32 T1 T2))]) (fun s_ w' => Below W0.heap.size W0 w') ?_ ?_
            rotate_left
            · intro hJ1_2_6_7_11_12
              refine join_ (σ := Nat × Nat × Nat × Nat) 9 #[true, true, true, true, true, true, true, true, true, true, true, true, false, false, true, true, true, true, false, false, false, false, false, false, false] (fun s_ => [(45, .slice (some ⟨s_.1, 0, none⟩) 1 1), (46, .int .u32 T0), (50, .slice (some ⟨s_.2.1, 0, none⟩) 1 1), (51, .int .u32 T1), (55, .slice (some ⟨s_.2.2.1, 0, none⟩) 1 1), (61, .slice (some ⟨s_.2.2.2, 0, none⟩) 1 1)]) (fun s_ w' => Below W0.heap.size W0 w' ∧ (Kd.C (Kd.slice 5 (Kd.int .u8)) w' (some ⟨s_.2.2.1, 0, none⟩) 1 [y1]) ∧ (Kd.C (Kd.slice 5 (Kd.int .u8)) w' (some ⟨s_.2.2.2, 0, none⟩) 1 [y2])) ?_ ?_
              rotate_left
              · intro hJ1_2_6_7_11_17
                refine join_ (σ := Nat × Nat × Nat) 10 #[true, true, true, true, true, true, true, true, true, true, true, true, false, false, true, true, true, false, false, false, false, false, false, false, false] (fun s_ => [(45, .slice (some ⟨s_.1, 0, none⟩) 1 1), (46, .int .u32 T0), (50, .slice (some ⟨s_.2.1, 0, none⟩) 1 1), (51, .int .u32 T1), (55, .slice (some ⟨s_.2.2, 0, none⟩) 1 1)]) (fun s_ w' => Below W0.heap.size W0 w' ∧ (Kd.C (Kd.slice 5 (Kd.int .u8)) w' (some ⟨s_.2.2, 0, none⟩) 1 [y1])) ?_ ?_
                rotate_left
                · intro hJ1_2_6_7_11
                  refine join_ (σ := Nat × Nat × Nat) 10 #[true, true, true, true, true, true, true, true, true, true, true, false, false, false, true, true, true, true, false, false, false, false, false, false, false] (fun s_ => [(45, .slice (some ⟨s_.1, 0, none⟩) 1 1), (46, .int .u32 T0), (50, .slice (some ⟨s_.2.1, 0, none⟩) 1 1), (51, .int .u32 T1), (61, .slice (some ⟨s_.2.2, 0, none⟩) 1 1)]) (fun s_ w' => Below W0.heap.size W0 w' ∧ (Kd.C (Kd.slice 5 (Kd.int .u8)) w' (some ⟨s_.2.2, 0, none⟩) 1 [y2])) ?_ ?_
                  rotate_left
                  · intro hJ1_2_6_7_17
                    refine join_ (σ := Nat × Nat × Nat × Nat) 10 #[true, true, true, true, true, true, true, false, true, true, true, true, false, false, true, true, true, true, false, false, false, false, false, false, false] (fun s_ => [(45, .slice (some ⟨s_.1, 0, none⟩) 1 1), (46, .int .u32 T0), (50, .slice (some ⟨s_.2.1, 0, none⟩) 1 1), (55, .slice (some ⟨s_.2.2.1, 0, none⟩) 1 1), (61, .slice (some ⟨s_.2.2.2, 0, none⟩) 1 1)]) (fun s_ w' => Below W0.heap.size W0 w' ∧ (Kd.C (Kd.slice 5 (Kd.int .u8)) w' (some ⟨s_.2.1, 0, none⟩) 1 [y0]) ∧ (Kd.C (Kd.slice 5 (Kd.int .u8)) w' (some ⟨s_.2.2.1, 0, none⟩) 1 [y1]) ∧ (Kd.C (Kd.slice 5 (Kd.int .u8)) w' (some ⟨s_.2.2.2, 0, none⟩) 1 [y2])) ?_ ?_
                    rotate_left
                    · intro hJ1_2_6_11_17
                      refine join_ (σ := Nat × Nat) 11 #[true, true, true, true, true, true, true, true, true, true, true, false, false, false, true, true, true, false, false, false, false, false, false, false, false] (fun s_ => [(45, .slice (some ⟨s_.1, 0, none⟩) 1 1), (46, .int .u32 T0), (50, .slice (some ⟨s_.2, 0, none⟩) 1 1), (51, .int .u32 T1)]) (fun s_ w' => Below W0.heap.size W0 w') ?_ ?_
                      rotate_left
                      · intro hJ1_2_6_7
                        refine join_ (σ := Nat × Nat × Nat) 11 #[true, true, true, true, true, true, true, false, true, true, true, true, false, false, true, true, true, false, false, false, false, false, false, false, false] (fun s_ => [(45, .slice (some ⟨s_.1, 0, none⟩) 1 1), (46, .int .u32 T0), (50, .slice (some ⟨s_.2.1, 0, none⟩) 1 1), (55, .slice (some ⟨s_.2.2, 0, none⟩) 1 1)]) (fun s_ w' => Below W0.heap.size W0 w' ∧ (Kd.C (Kd.slice 5 (Kd.int .u8)) w' (some ⟨s_.2.1, 0, none⟩) 1 [y0]) ∧ (Kd.C (Kd.slice 5 (Kd.int .u8)) w' (some ⟨s_.2.2, 0, none⟩) 1 [y1])) ?_ ?_
                        rotate_left
                        · intro hJ1_2_6_11
                          refine join_ (σ := Nat × Nat × Nat) 11 #[true, true, true, true, true, true, true, false, true, true, true, false, false, false, true, true, true, true, false, false, false, false, false, false, false] (fun s_ => [(45, .slice (some ⟨s_.1, 0, none⟩) 1 1), (46, .int .u32 T0), (50, .slice (some ⟨s_.2.1, 0, none⟩) 1 1), (61, .slice (some ⟨s_.2.2, 0, none⟩) 1 1)]) (fun s_ w' => Below W0.heap.size W0 w' ∧ (Kd.C (Kd.slice 5 (Kd.int .u8)) w' (some ⟨s_.2.1, 0, none⟩) 1 [y0]) ∧ (Kd.C (Kd.slice 5 (Kd.int .u8)) w' (some ⟨s_.2.2, 0, none⟩) 1 [y2])) ?_ ?_
                          rotate_left
                          · intro hJ1_2_6_17
                            refine join_ (σ := Nat × Nat × Nat) 11 #[true, true, true, true, true, true, false, false, true, true, true, true, false, false, true, true, true, true, false, false, false, false, false, false, false] (fun s_ => [(45, .slice (some ⟨s_.1, 0, none⟩) 1 1), (46, .int .u32 T0), (55, .slice (some ⟨s_.2.1, 0, none⟩) 1 1), (61, .slice (some ⟨s_.2.2, 0, none⟩) 1 1)]) (fun s_ w' => Below W0.heap.size W0 w' ∧ (Kd.C (Kd.slice 5 (Kd.int .u8)) w' (some ⟨s_.2.1, 0, none⟩) 1 [y1]) ∧ (Kd.C (Kd.slice 5 (Kd.int .u8)) w' (some ⟨s_.2.2, 0, none⟩) 1 [y2])) ?_ ?_
                            rotate_left
                            · intro hJ1_2_11_17
                              refine join_ (σ := Nat × Nat × Nat × Nat) 11 #[true, true, false, true, true, true, true, false, true, true, true, true, false, false, true, true, true, true, false, false, false, false, false, false, false] (fun s_ => [(45, .slice (some ⟨s_.1, 0, none⟩) 1 1), (50, .slice (some ⟨s_.2.1, 0, none⟩) 1 1), (55, .slice (some ⟨s_.2.2.1, 0, none⟩) 1 1), (61, .slice (some ⟨s_.2.2.2, 0, none⟩) 1 1)]) (fun s_ w' => Below W0.heap.size W0 w' ∧ (Kd.C (Kd.slice 5 (Kd.int .u8)) w' (some ⟨s_.1, 0, none⟩) 1 [xs]) ∧ (Kd.C (Kd.slice 5 (Kd.int .u8)) w' (some ⟨s_.2.1, 0, none⟩) 1 [y0]) ∧ (Kd.C (Kd.slice 5 (Kd.int .u8)) w' (some ⟨s_.2.2.1, 0, none⟩) 1 [y1]) ∧ (Kd.C (Kd.slice 5 (Kd.int .u8)) w' (some ⟨s_.2.2.2, 0, none⟩) 1 [y2])) ?_ ?_
                              rotate_left
                              · intro hJ1_6_11_17
                                refine join_ (σ := Nat × Nat) 12 #[true, true, true, true, true, true, true, false, true, true, true, false, false, false, true, true, true, false, false, false, false, false, false, false, false] (fun s_ => [(45, .slice (some ⟨s_.1, 0, none⟩) 1 1), (46, .int .u32 T0), (50, .slice (some ⟨s_.2, 0, none⟩) 1 1)]) (fun s_ w' => Below W0.heap.size W0 w' ∧ (Kd.C (Kd.slice 5 (Kd.int .u8)) w' (some ⟨s_.2, 0, none⟩) 1 [y0])) ?_ ?_
                                rotate_left
                                · intro hJ1_2_6
                                  refine join_ (σ := Nat × Nat) 12 #[true, true, true, true, true, true, false, false, true, true, true, true, false, false, true, true, true, false, false, false, false, false, false, false, false] (fun s_ => [(45, .slice (some ⟨s_.1, 0, none⟩) 1 1), (46, .int .u32 T0), (55, .slice (some ⟨s_.2, 0, none⟩) 1 1)]) (fun s_ w' => Below W0.heap.size W0 w' ∧ (Kd.C (Kd.slice 5 (Kd.int .u8)) w' (some ⟨s_.2, 0, none⟩) 1 [y1])) ?_ ?_
                                  rotate_left
                                  · intro hJ1_2_11
                                    refine join_ (σ := Nat × Nat) 12 #[true, true, true, true, true, true, false, false, true, true, true, false, false, false, true, true, true, true, false, false, false, false, false, false, false] (fun s_ => [(45, .slice (some ⟨s_.1, 0, none⟩) 1 1), (46, .int .u32 T0), (61, .slice (some ⟨s_.2, 0, none⟩) 1 1)]) (fun s_ w' => Below W0.heap.size W0 w' ∧ (Kd.C (Kd.slice 5 (Kd.int .u8)) w' (some ⟨s_.2, 0, none⟩) 1 [y2])) ?_ ?_
                                    rotate_left
                                    · intro hJ1_2_17
                                      refine join_ (σ := Nat × Nat × Nat) 12 #[true, true, false, true, true, true, true, false, true, true, true, true, false, false, true, true, true, false, false, false, false, false, false, false, false] (fun s_ => [(45, .slice (some ⟨s_.1, 0, none⟩) 1 1), (50, .slice (some ⟨s_.2.1, 0, none⟩) 1 1), (55, .slice (some ⟨s_.2.2, 0, none⟩) 1 1)]) (fun s_ w' => Below W0.heap.size W0 w' ∧ (Kd.C (Kd.slice 5 (Kd.int .u8)) w' (some ⟨s_.1, 0, none⟩) 1 [xs]) ∧ (Kd.C (Kd.slice 5 (Kd.int .u8)) w' (some ⟨s_.2.1, 0, none⟩) 1 [y0]) ∧ (Kd.C (Kd.slice 5 (Kd.int .u8)) w' (some ⟨s_.2.2, 0, none⟩) 1 [y1])) ?_ ?_
                                      rotate_left
                                      · intro hJ1_6_11
                                        refine join_ (σ := Nat × Nat × Nat) 12 #[true, true, false, true, true, true, true, false, true, true, true, false, false, false, true, true, true, true, false, false, false, false, false, false, false] (fun s_ => [(45, .slice (some ⟨s_.1, 0, none⟩) 1 1), (50, .slice (some ⟨s_.2.1, 0, none⟩) 1 1), (61, .slice (some ⟨s_.2.2, 0, none⟩) 1 1)]) (fun s_ w' => Below W0.heap.size W0 w' ∧ (Kd.C (Kd.slice 5 (Kd.int .u8)) w' (some ⟨s_.1, 0, none⟩) 1 [xs]) ∧ (Kd.C (Kd.slice 5 (Kd.int .u8)) w' (some ⟨s_.2.1, 0, none⟩) 1 [y0]) ∧ (Kd.C (Kd.slice 5 (Kd.int .u8)) w' (some ⟨s_.2.2, 0, none⟩) 1 [y2])) ?_ ?_
                                        rotate_left
                                        · intro hJ1_6_17
                                          refine join_ (σ := Nat × Nat × Nat) 12 #[true, true, false, true, true, true, false, false, true, true, true, true, false, false, true, true, true, true, false, false, false, false, false, false, false] (fun s_ => [(45, .slice (some ⟨s_.1, 0, none⟩) 1 1), (55, .slice (some ⟨s_.2.1, 0, none⟩) 1 1), (61, .slice (some ⟨s_.2.2, 0, none⟩) 1 1)]) (fun s_ w' => Below W0.heap.size W0 w' ∧ (Kd.C (Kd.slice 5 (Kd.int .u8)) w' (some ⟨s_.1, 0, none⟩) 1 [xs]) ∧ (Kd.C (Kd.slice 5 (Kd.int .u8)) w' (some ⟨s_.2.1, 0, none⟩) 1 [y1]) ∧ (Kd.C (Kd.slice 5 (Kd.int .u8)) w' (some ⟨s_.2.2, 0, none⟩) 1 [y2])) ?_ ?_
                                          rotate_left
                                          · intro hJ1_11_17
                                            refine join_ (σ := Nat × Nat × Nat) 12 #[true, false, false, true, true, true, true, false, true, true, true, true, false, false, true, true, true, true, false, false, false, false, false, false, false] (fun s_ => [(50, .slice (some ⟨s_.1, 0, none⟩) 1 1), (55, .slice (some ⟨s_.2.1, 0, none⟩) 1 1), (61, .slice (some ⟨s_.2.2, 0, none⟩) 1 1)]) (fun s_ w' => Below W0.heap.size W0 w' ∧ (Kd.C (Kd.slice 5 (Kd.int .u8)) w' (some ⟨s_.1, 0, none⟩) 1 [y0]) ∧ (Kd.C (Kd.slice 5 (Kd.int .u8)) w' (some ⟨s_.2.1, 0, none⟩) 1 [y1]) ∧ (Kd.C (Kd.slice 5 (Kd.int .u8)) w' (some ⟨s_.2.2, 0, none⟩) 1 [y2])) ?_ ?_
                                            rotate_left
                                            · intro hJ6_11_17
                                              refine join_ (σ := Nat) 13 #[true, true, true, true, true, true, false, false, true, true, true, false, false, false, true, true, true, false, false, false, false, false, false, false, false] (fun s_ => [(45, .slice (some ⟨s_, 0, none⟩) 1 1), (46, .int .u32 T0)]) (fun s_ w' => Below W0.heap.size W0 w') ?_ ?_
                                              rotate_left
                                              · intro hJ1_2
                                                refine join_ (σ := Nat × Nat) 13 #[true, true, false, true, true, true, true, false, true, true, true, false, false, false, true, true, true, false, false, false, false, false, false, false, false] (fun s_ => [(45, .slice (some ⟨s_.1, 0, none⟩) 1 1), (50, .slice (some ⟨s_.2, 0, none⟩) 1 1)]) (fun s_ w' => Below W0.heap.size W0 w' ∧ (Kd.C (Kd.slice 5 (Kd.int .u8)) w' (some ⟨s_.1, 0, none⟩) 1 [xs]) ∧ (Kd.C (Kd.slice 5 (Kd.int .u8)) w' (some ⟨s_.2, 0, none⟩) 1 [y0])) ?_ ?_
                                                rotate_left
                                                · intro hJ1_6
                                                  refine join_ (σ := Nat × Nat) 13 #[true, true, false, true, true, true, false, false, true, true, true, true, false, false, true, true, true, false, false, false, false, false, false, false, false] (fun s_ => [(45, .slice (some ⟨s_.1, 0, none⟩) 1 1), (55, .slice (some ⟨s_.2, 0, none⟩) 1 1)]) (fun s_ w' => Below W0.heap.size W0 w' ∧ (Kd.C (Kd.slice 5 (Kd.int .u8)) w' (some ⟨s_.1, 0, none⟩) 1 [xs]) ∧ (Kd.C (Kd.slice 5 (Kd.int .u8)) w' (some ⟨s_.2, 0, none⟩) 1 [y1])) ?_ ?_
                                                  rotate_left
                                                  · intro hJ1_11
                                                    refine join_ (σ := Nat × Nat) 13 #[true, true, false, true, true, true, false, false, true, true, true, false, false, false, true, true, true, true, false, false, false, false, false, false, false] (fun s_ => [(45, .slice (some ⟨s_.1, 0, none⟩) 1 1), (61, .slice (some ⟨s_.2, 0, none⟩) 1 1)]) (fun s_ w' => Below W0.heap.size W0 w' ∧ (Kd.C (Kd.slice 5 (Kd.int .u8)) w' (some ⟨s_.1, 0, none⟩) 1 [xs]) ∧ (Kd.C (Kd.slice 5 (Kd.int .u8)) w' (some ⟨s_.2, 0, none⟩) 1 [y2])) ?_ ?_
                                                    rotate_left
                                                    · intro hJ1_17
                                                      refine join_ (σ := Nat × Nat) 13 #[true, false, false, true, true, true, true, false, true, true, true, true, false, false, true, true, true, false, false, false, false, false, false, false, false] (fun s_ => [(50, .slice (some ⟨s_.1, 0, none⟩) 1 1), (55, .slice (some ⟨s_.2, 0, none⟩) 1 1)]) (fun s_ w' => Below W0.heap.size W0 w' ∧ (Kd.C (Kd.slice 5 (Kd.int .u8)) w' (some ⟨s_.1, 0, none⟩) 1 [y0]) ∧ (Kd.C (Kd.slice 5 (Kd.int .u8)) w' (some ⟨s_.2, 0, none⟩) 1 [y1])) ?_ ?_
                                                      rotate_left
                                                      · intro hJ6_11
                                                        refine join_ (σ := Nat × Nat) 13 #[true, false, false, true, true, true, true, false, true, true, true, false, false, false, true, true, true, true, false, false, false, false, false, false, false] (fun s_ => [(50, .slice (some ⟨s_.1, 0, none⟩) 1 1), (61, .slice (some ⟨s_.2, 0, none⟩) 1 1)]) (fun s_ w' => Below W0.heap.size W0 w' ∧ (Kd.C (Kd.slice 5 (Kd.int .u8)) w' (some ⟨s_.1, 0, none⟩) 1 [y0]) ∧ (Kd.C (Kd.slice 5 (Kd.int .u8)) w' (some ⟨s_.2, 0, none⟩) 1 [y2])) ?_ ?_
                                                        rotate_left
                                                        · intro hJ6_17
                                                          refine join_ (σ := Nat × Nat) 13 #[true, false, false, true, true, true, false, false, true, true, true, true, false, false, true, true, true, true, false, false, false, false, false, false, false] (fun s_ => [(55, .slice (some ⟨s_.1, 0, none⟩) 1 1), (61, .slice (some ⟨s_.2, 0, none⟩) 1 1)]) (fun s_ w' => Below W0.heap.size W0 w' ∧ (Kd.C (Kd.slice 5 (Kd.int .u8)) w' (some ⟨s_.1, 0, none⟩) 1 [y1]) ∧ (Kd.C (Kd.slice 5 (Kd.int .u8)) w' (some ⟨s_.2, 0, none⟩) 1 [y2])) ?_ ?_
                                                          rotate_left
                                                          · intro hJ11_17
                                                            refine join_ (σ := Nat) 14 #[true, true, false, true, true, true, false, false, true, true, true, false, false, false, true, true, true, false, false, false, false, false, false, false, false] (fun s_ => [(45, .slice (some ⟨s_, 0, none⟩) 1 1)]) (fun s_ w' => Below W0.heap.size W0 w' ∧ (Kd.C (Kd.slice 5 (Kd.int .u8)) w' (some ⟨s_, 0, none⟩) 1 [xs])) ?_ ?_
                                                            rotate_left
                                                            · intro hJ1
                                                              refine join_ (σ := Nat) 14 #[true, false, false, true, true, true, true, false, true, true, true, false, false, false, true, true, true, false, false, false, false, false, false, false, false] (fun s_ => [(50, .slice (some ⟨s_, 0, none⟩) 1 1)]) (fun s_ w' => Below W0.heap.size W0 w' ∧ (Kd.C (Kd.slice 5 (Kd.int .u8)) w' (some ⟨s_, 0, none⟩) 1 [y0])) ?_ ?_
                                                              rotate_left
                                                              · intro hJ6
                                                                refine join_ (σ := Nat) 14 #[true, false, false, true, true, true, false, false, true, true, true, true, false, false, true, true, true, false, false, false, false, false, false, false, false] (fun s_ => [(55, .slice (some ⟨s_, 0, none⟩) 1 1)]) (fun s_ w' => Below W0.heap.size W0 w' ∧ (Kd.C (Kd.slice 5 (Kd.int .u8)) w' (some ⟨s_, 0, none⟩) 1 [y1])) ?_ ?_
                                                                rotate_left
                                                                · intro hJ11
                                                                  refine join_ (σ := Nat) 14 #[true, false, false, true, true, true, false, false, true, true, true, false, false, false, true, true, true, true, false, false, false, false, false, false, false] (fun s_ => [(61, .slice (some ⟨s_, 0, none⟩) 1 1)]) (fun s_ w' => Below W0.heap.size W0 w' ∧ (Kd.C (Kd.slice 5 (Kd.int .u8)) w' (some ⟨s_, 0, none⟩) 1 [y2])) ?_ ?_
                                                                  rotate_left
                                                                  · intro hJ17
                                                                    refine four_ (i := 1) (j := 6) (k := 11) (m := 17) (Ni := some 45) (Nj := some 50) (Nk := some 55) (Nm := some 61) #[true, true, false, true, true, true, false, false, true, true, true, false, false, false, true, true, true, false, false, false, false, false, false, false, false] #[true, false, false, true, true, true, true, false, true, true, true, false, false, false, true, true, true, false, false, false, false, false, false, false, false] #[true, false, false, true, true, true, false, false, true, true, true, true, false, false, true, true, true, false, false, false, false, false, false, false, false] #[true, false, false, true, true, true, false, false, true, true, true, false, false, false, true, true, true, true, false, false, false, false, false, false, false] rfl rfl rfl rfl rfl rfl rfl rfl (by kernel_rfl) (by decide) (by decide) (by decide) (by decide) (fun K hK => ?_) (fun K hK => ?_) (fun K hK => ?_) (fun K hK => ?_)
                                                                    · skip
                                                                      refine value_ (w1 := ?_) (v := ?_) (by rfl) rfl ?_ ?_
                                                                      rotate_left 2
                                                                      · go_simp
                                                                        constructor
                                                                        · rfl
                                                                        · rfl
                                                                      refine hK.out _ _ trivial (fun hHeld => ?_)
                                                                      clear hK K
                                                                      refine norm_ (a' := ?_) ?_ ?_
                                                                      rotate_left
                                                                      · show Act.put _ (some 45) _ = _
                                                                        simp only [Act.put, List.setIfInBounds_toArray, List.set_cons_zero, List.set_cons_succ, i64_w, i32_w]
                                                                        rfl
                                                                      exact norm_ (by first | (simp only [putAll, Act.put, List.setIfInBounds_toArray, List.set_cons_zero, List.set_cons_succ]; done) | (simp only [putAll, Act.put, List.setIfInBounds_toArray, List.set_cons_zero, List.set_cons_succ]; rfl)) (hJ1 W0.heap.size _ ⟨(below_alloc (Below.refl _ W0) _), (C_row1 _ W0.heap.size Ao co xs _ 22 (0, 0) (heap_alloc_new W0 _) (by rw [hlx]) (Kd.C_alloc (Kd.C_below K0 (Below.refl _ W0)) _) hcap0)⟩)
                                                                    · skip
                                                                      refine value_ (w1 := ?_) (v := ?_) (by rfl) rfl ?_ ?_
                                                                      rotate_left 2
                                                                      · go_simp
                                                                        constructor
                                                                        · rfl
                                                                        · rfl
                                                                      refine hK.out _ _ trivial (fun hHeld => ?_)
                                                                      clear hK K
                                                                      refine norm_ (a' := ?_) ?_ ?_
                                                                      rotate_left
                                                                      · show Act.put _ (some 50) _ = _
                                                                        simp only [Act.put, List.setIfInBounds_toArray, List.set_cons_zero, List.set_cons_succ, i64_w, i32_w]
                                                                        rfl
                                                                      exact norm_ (by first | (simp only [putAll, Act.put, List.setIfInBounds_toArray, List.set_cons_zero, List.set_cons_succ]; done) | (simp only [putAll, Act.put, List.setIfInBounds_toArray, List.set_cons_zero, List.set_cons_succ]; rfl)) (hJ6 W0.heap.size _ ⟨(below_alloc (Below.refl _ W0) _), (C_row1 _ W0.heap.size A0 c0 y0 _ 22 (0, 0) (heap_alloc_new W0 _) (by rw [n0]) (Kd.C_alloc (Kd.C_below K1 (Below.refl _ W0)) _) hcap1)⟩)
                                                                    · skip
                                                                      refine value_ (w1 := ?_) (v := ?_) (by rfl) rfl ?_ ?_
                                                                      rotate_left 2
                                                                      · go_simp
                                                                        constructor
                                                                        · rfl
                                                                        · rfl
                                                                      refine hK.out _ _ trivial (fun hHeld => ?_)
                                                                      clear hK K
                                                                      refine norm_ (a' := ?_) ?_ ?_
                                                                      rotate_left
                                                                      · show Act.put _ (some 55) _ = _
                                                                        simp only [Act.put, List.setIfInBounds_toArray, List.set_cons_zero, List.set_cons_succ, i64_w, i32_w]
                                                                        rfl
                                                                      exact norm_ (by first | (simp only [putAll, Act.put, List.setIfInBounds_toArray, List.set_cons_zero, List.set_cons_succ]; done) | (simp only [putAll, Act.put, List.setIfInBounds_toArray, List.set_cons_zero, List.set_cons_succ]; rfl)) (hJ11 W0.heap.size _ ⟨(below_alloc (Below.refl _ W0) _), (C_row1 _ W0.heap.size A1 c1 y1 _ 22 (0, 0) (heap_alloc_new W0 _) (by rw [n1]) (Kd.C_alloc (Kd.C_below K2 (Below.refl _ W0)) _) hcap2)⟩)
                                                                    · skip
                                                                      refine value_ (w1 := ?_) (v := ?_) (by rfl) rfl ?_ ?_
                                                                      rotate_left 2
                                                                      · go_simp
                                                                        constructor
                                                                        · rfl
                                                                        · rfl
                                                                      refine hK.out _ _ trivial (fun hHeld => ?_)
                                                                      clear hK K
                                                                      refine norm_ (a' := ?_) ?_ ?_
                                                                      rotate_left
                                                                      · show Act.put _ (some 61) _ = _
                                                                        simp only [Act.put, List.setIfInBounds_toArray, List.set_cons_zero, List.set_cons_succ, i64_w, i32_w]
                                                                        rfl
                                                                      exact norm_ (by first | (simp only [putAll, Act.put, List.setIfInBounds_toArray, List.set_cons_zero, List.set_cons_succ]; done) | (simp only [putAll, Act.put, List.setIfInBounds_toArray, List.set_cons_zero, List.set_cons_succ]; rfl)) (hJ17 W0.heap.size _ ⟨(below_alloc (Below.refl _ W0) _), (C_row1 _ W0.heap.size A2 c2 y2 _ 22 (0, 0) (heap_alloc_new W0 _) (by rw [n2]) (Kd.C_alloc (Kd.C_below K3 (Below.refl _ W0)) _) hcap3)⟩)
                                                                  · skip
                                                                    rintro g17_ wq ⟨hb_, h17_⟩
                                                                    have hHeld := trivial
                                                                    refine norm_ (a' := ?_) ?_ ?_
                                                                    rotate_left
                                                                    · simp only [putAll, Act.put, List.setIfInBounds_toArray, List.set_cons_zero, List.set_cons_succ]
                                                                      rfl
                                                                    refine three_ (i := 1) (j := 6) (k := 11) (Ni := some 45) (Nj := some 50) (Nk := some 55) #[true, true, false, true, true, true, false, false, true, true, true, false, false, false, true, true, true, true, false, false, false, false, false, false, false] #[true, false, false, true, true, true, true, false, true, true, true, false, false, false, true, true, true, true, false, false, false, false, false, false, false] #[true, false, false, true, true, true, false, false, true, true, true, true, false, false, true, true, true, true, false, false, false, false, false, false, false] rfl rfl rfl rfl rfl rfl (by kernel_rfl) (by decide) (by decide) (by decide) (fun K hK => ?_) (fun K hK => ?_) (fun K hK => ?_)
                                                                    · skip
                                                                      refine value_ (w1 := ?_) (v := ?_) (by rfl) rfl ?_ ?_
                                                                      rotate_left 2
                                                                      · go_simp
                                                                        constructor
                                                                        · rfl
                                                                        · rfl
                                                                      refine hK.out _ _ trivial (fun hHeld => ?_)
                                                                      clear hK K
                                                                      refine norm_ (a' := ?_) ?_ ?_
                                                                      rotate_left
                                                                      · show Act.put _ (some 45) _ = _
                                                                        simp only [Act.put, List.setIfInBounds_toArray, List.set_cons_zero, List.set_cons_succ, i64_w, i32_w]
                                                                        rfl
                                                                      exact norm_ (by first | (simp only [putAll, Act.put, List.setIfInBounds_toArray, List.set_cons_zero, List.set_cons_succ]; done) | (simp only [putAll, Act.put, List.setIfInBounds_toArray, List.set_cons_zero, List.set_cons_succ]; rfl)) (hJ1_17 (wq.heap.size, g17_) _ ⟨(below_alloc hb_ _), (C_row1 _ wq.heap.size Ao co xs _ 22 (0, 0) (heap_alloc_new wq _) (by rw [hlx]) (Kd.C_alloc (Kd.C_below K0 hb_) _) hcap0), (Kd.C_alloc h17_ _)⟩)
                                                                    · skip
                                                                      refine value_ (w1 := ?_) (v := ?_) (by rfl) rfl ?_ ?_
                                                                      rotate_left 2
                                                                      · go_simp
                                                                        constructor
                                                                        · rfl
                                                                        · rfl
                                                                      refine hK.out _ _ trivial (fun hHeld => ?_)
                                                                      clear hK K
                                                                      refine norm_ (a' := ?_) ?_ ?_
                                                                      rotate_left
                                                                      · show Act.put _ (some 50) _ = _
                                                                        simp only [Act.put, List.setIfInBounds_toArray, List.set_cons_zero, List.set_cons_succ, i64_w, i32_w]
                                                                        rfl
                                                                      exact norm_ (by first | (simp only [putAll, Act.put, List.setIfInBounds_toArray, List.set_cons_zero, List.set_cons_succ]; done) | (simp only [putAll, Act.put, List.setIfInBounds_toArray, List.set_cons_zero, List.set_cons_succ]; rfl)) (hJ6_17 (wq.heap.size, g17_) _ ⟨(below_alloc hb_ _), (C_row1 _ wq.heap.size A0 c0 y0 _ 22 (0, 0) (heap_alloc_new wq _) (by rw [n0]) (Kd.C_alloc (Kd.C_below K1 hb_) _) hcap1), (Kd.C_alloc h17_ _)⟩)
                                                                    · skip
                                                                      refine value_ (w1 := ?_) (v := ?_) (by rfl) rfl ?_ ?_
                                                                      rotate_left 2
                                                                      · go_simp
                                                                        constructor
                                                                        · rfl
                                                                        · rfl
                                                                      refine hK.out _ _ trivial (fun hHeld => ?_)
                                                                      clear hK K
                                                                      refine norm_ (a' := ?_) ?_ ?_
                                                                      rotate_left
                                                                      · show Act.put _ (some 55) _ = _
                                                                        simp only [Act.put, List.setIfInBounds_toArray, List.set_cons_zero, List.set_cons_succ, i64_w, i32_w]
                                                                        rfl
                                                                      exact norm_ (by first | (simp only [putAll, Act.put, List.setIfInBounds_toArray, List.set_cons_zero, List.set_cons_succ]; done) | (simp only [putAll, Act.put, List.setIfInBounds_toArray, List.set_cons_zero, List.set_cons_succ]; rfl)) (hJ11_17 (wq.heap.size, g17_) _ ⟨(below_alloc hb_ _), (C_row1 _ wq.heap.size A1 c1 y1 _ 22 (0, 0) (heap_alloc_new wq _) (by rw [n1]) (Kd.C_alloc (Kd.C_below K2 hb_) _) hcap2), (Kd.C_alloc h17_ _)⟩)
                                                                · skip
                                                                  rintro g11_ wq ⟨hb_, h11_⟩
                                                                  have hHeld := trivial
                                                                  refine norm_ (a' := ?_) ?_ ?_
                                                                  rotate_left
                                                                  · simp only [putAll, Act.put, List.setIfInBounds_toArray, List.set_cons_zero, List.set_cons_succ]
                                                                    rfl
                                                                  refine three_ (i := 1) (j := 6) (k := 17) (Ni := some 45) (Nj := some 50) (Nk := some 61) #[true, true, false, true, true, true, false, false, true, true, true, true, false, false, true, true, true, false, false, false, false, false, false, false, false] #[true, false, false, true, true, true, true, false, true, true, true, true, false, false, true, true, true, false, false, false, false, false, false, false, false] #[true, false, false, true, true, true, false, false, true, true, true, true, false, false, true, true, true, true, false, false, false, false, false, false, false] rfl rfl rfl rfl rfl rfl (by kernel_rfl) (by decide) (by decide) (by decide) (fun K hK => ?_) (fun K hK => ?_) (fun K hK => ?_)
                                                                  · skip
                                                                    refine value_ (w1 := ?_) (v := ?_) (by rfl) rfl ?_ ?_
                                                                    rotate_left 2
                                                                    · go_simp
                                                                      constructor
                                                                      · rfl
                                                                      · rfl
                                                                    refine hK.out _ _ trivial (fun hHeld => ?_)
                                                                    clear hK K
                                                                    refine norm_ (a' := ?_) ?_ ?_
                                                                    rotate_left
                                                                    · show Act.put _ (some 45) _ = _
                                                                      simp only [Act.put, List.setIfInBounds_toArray, List.set_cons_zero, List.set_cons_succ, i64_w, i32_w]
                                                                      rfl
                                                                    exact norm_ (by first | (simp only [putAll, Act.put, List.setIfInBounds_toArray, List.set_cons_zero, List.set_cons_succ]; done) | (simp only [putAll, Act.put, List.setIfInBounds_toArray, List.set_cons_zero, List.set_cons_succ]; rfl)) (hJ1_11 (wq.heap.size, g11_) _ ⟨(below_alloc hb_ _), (C_row1 _ wq.heap.size Ao co xs _ 22 (0, 0) (heap_alloc_new wq _) (by rw [hlx]) (Kd.C_alloc (Kd.C_below K0 hb_) _) hcap0), (Kd.C_alloc h11_ _)⟩)
                                                                  · skip
                                                                    refine value_ (w1 := ?_) (v := ?_) (by rfl) rfl ?_ ?_
                                                                    rotate_left 2
                                                                    · go_simp
                                                                      constructor
                                                                      · rfl
                                                                      · rfl
                                                                    refine hK.out _ _ trivial (fun hHeld => ?_)
                                                                    clear hK K
                                                                    refine norm_ (a' := ?_) ?_ ?_
                                                                    rotate_left
                                                                    · show Act.put _ (some 50) _ = _
                                                                      simp only [Act.put, List.setIfInBounds_toArray, List.set_cons_zero, List.set_cons_succ, i64_w, i32_w]
                                                                      rfl
                                                                    exact norm_ (by first | (simp only [putAll, Act.put, List.setIfInBounds_toArray, List.set_cons_zero, List.set_cons_succ]; done) | (simp only [putAll, Act.put, List.setIfInBounds_toArray, List.set_cons_zero, List.set_cons_succ]; rfl)) (hJ6_11 (wq.heap.size, g11_) _ ⟨(below_alloc hb_ _), (C_row1 _ wq.heap.size A0 c0 y0 _ 22 (0, 0) (heap_alloc_new wq _) (by rw [n0]) (Kd.C_alloc (Kd.C_below K1 hb_) _) hcap1), (Kd.C_alloc h11_ _)⟩)
                                                                  · skip
                                                                    refine value_ (w1 := ?_) (v := ?_) (by rfl) rfl ?_ ?_
                                                                    rotate_left 2
                                                                    · go_simp
                                                                      constructor
                                                                      · rfl
                                                                      · rfl
                                                                    refine hK.out _ _ trivial (fun hHeld => ?_)
                                                                    clear hK K
                                                                    refine norm_ (a' := ?_) ?_ ?_
                                                                    rotate_left
                                                                    · show Act.put _ (some 61) _ = _
                                                                      simp only [Act.put, List.setIfInBounds_toArray, List.set_cons_zero, List.set_cons_succ, i64_w, i32_w]
                                                                      rfl
                                                                    exact norm_ (by first | (simp only [putAll, Act.put, List.setIfInBounds_toArray, List.set_cons_zero, List.set_cons_succ]; done) | (simp only [putAll, Act.put, List.setIfInBounds_toArray, List.set_cons_zero, List.set_cons_succ]; rfl)) (hJ11_17 (g11_, wq.heap.size) _ ⟨(below_alloc hb_ _), (Kd.C_alloc h11_ _), (C_row1 _ wq.heap.size A2 c2 y2 _ 22 (0, 0) (heap_alloc_new wq _) (by rw [n2]) (Kd.C_alloc (Kd.C_below K3 hb_) _) hcap3)⟩)
                                                              · skip
                                                                rintro g6_ wq ⟨hb_, h6_⟩
                                                                have hHeld := trivial
                                                                refine norm_ (a' := ?_) ?_ ?_
                                                                rotate_left
                                                                · simp only [putAll, Act.put, List.setIfInBounds_toArray, List.set_cons_zero, List.set_cons_succ]
                                                                  rfl
                                                                refine three_ (i := 1) (j := 11) (k := 17) (Ni := some 45) (Nj := some 55) (Nk := some 61) #[true, true, false, true, true, true, true, false, true, true, true, false, false, false, true, true, true, false, false, false, false, false, false, false, false] #[true, false, false, true, true, true, true, false, true, true, true, true, false, false, true, true, true, false, false, false, false, false, false, false, false] #[true, false, false, true, true, true, true, false, true, true, true, false, false, false, true, true, true, true, false, false, false, false, false, false, false] rfl rfl rfl rfl rfl rfl (by kernel_rfl) (by decide) (by decide) (by decide) (fun K hK => ?_) (fun K hK => ?_) (fun K hK => ?_)
                                                                · skip
                                                                  refine value_ (w1 := ?_) (v := ?_) (by rfl) rfl ?_ ?_
                                                                  rotate_left 2
                                                                  · go_simp
                                                                    constructor
                                                                    · rfl
                                                                    · rfl
                                                                  refine hK.out _ _ trivial (fun hHeld => ?_)
                                                                  clear hK K
                                                                  refine norm_ (a' := ?_) ?_ ?_
                                                                  rotate_left
                                                                  · show Act.put _ (some 45) _ = _
                                                                    simp only [Act.put, List.setIfInBounds_toArray, List.set_cons_zero, List.set_cons_succ, i64_w, i32_w]
                                                                    rfl
                                                                  exact norm_ (by first | (simp only [putAll, Act.put, List.setIfInBounds_toArray, List.set_cons_zero, List.set_cons_succ]; done) | (simp only [putAll, Act.put, List.setIfInBounds_toArray, List.set_cons_zero, List.set_cons_succ]; rfl)) (hJ1_6 (wq.heap.size, g6_) _ ⟨(below_alloc hb_ _), (C_row1 _ wq.heap.size Ao co xs _ 22 (0, 0) (heap_alloc_new wq _) (by rw [hlx]) (Kd.C_alloc (Kd.C_below K0 hb_) _) hcap0), (Kd.C_alloc h6_ _)⟩)
                                                                · skip
                                                                  refine value_ (w1 := ?_) (v := ?_) (by rfl) rfl ?_ ?_
                                                                  rotate_left 2
                                                                  · go_simp
                                                                    constructor
                                                                    · rfl
                                                                    · rfl
                                                                  refine hK.out _ _ trivial (fun hHeld => ?_)
                                                                  clear hK K
                                                                  refine norm_ (a' := ?_) ?_ ?_
                                                                  rotate_left
                                                                  · show Act.put _ (some 55) _ = _
                                                                    simp only [Act.put, List.setIfInBounds_toArray, List.set_cons_zero, List.set_cons_succ, i64_w, i32_w]
                                                                    rfl
                                                                  exact norm_ (by first | (simp only [putAll, Act.put, List.setIfInBounds_toArray, List.set_cons_zero, List.set_cons_succ]; done) | (simp only [putAll, Act.put, List.setIfInBounds_toArray, List.set_cons_zero, List.set_cons_succ]; rfl)) (hJ6_11 (g6_, wq.heap.size) _ ⟨(below_alloc hb_ _), (Kd.C_alloc h6_ _), (C_row1 _ wq.heap.size A1 c1 y1 _ 22 (0, 0) (heap_alloc_new wq _) (by rw [n1]) (Kd.C_alloc (Kd.C_below K2 hb_) _) hcap2)⟩)
                                                                · skip
                                                                  refine value_ (w1 := ?_) (v := ?_) (by rfl) rfl ?_ ?_
                                                                  rotate_left 2
                                                                  · go_simp
                                                                    constructor
                                                                    · rfl
                                                                    · rfl
                                                                  refine hK.out _ _ trivial (fun hHeld => ?_)
                                                                  clear hK K
                                                                  refine norm_ (a' := ?_) ?_ ?_
                                                                  rotate_left
                                                                  · show Act.put _ (some 61) _ = _
                                                                    simp only [Act.put, List.setIfInBounds_toArray, List.set_cons_zero, List.set_cons_succ, i64_w, i32_w]
                                                                    rfl
                                                                  exact norm_ (by first | (simp only [putAll, Act.put, List.setIfInBounds_toArray, List.set_cons_zero, List.set_cons_succ]; done) | (simp only [putAll, Act.put, List.setIfInBounds_toArray, List.set_cons_zero, List.set_cons_succ]; rfl)) (hJ6_17 (g6_, wq.heap.size) _ ⟨(below_alloc hb_ _), (Kd.C_alloc h6_ _), (C_row1 _ wq.heap.size A2 c2 y2 _ 22 (0, 0) (heap_alloc_new wq _) (by rw [n2]) (Kd.C_alloc (Kd.C_below K3 hb_) _) hcap3)⟩)
                                                            · skip
                                                              rintro g1_ wq ⟨hb_, h1_⟩
                                                              have hHeld := trivial
                                                              refine norm_ (a' := ?_) ?_ ?_
                                                              rotate_left
                                                              · simp only [putAll, Act.put, List.setIfInBounds_toArray, List.set_cons_zero, List.set_cons_succ]
                                                                rfl
                                                              refine four_ (i := 2) (j := 6) (k := 11) (m := 17) (Ni := some 46) (Nj := some 50) (Nk := some 55) (Nm := some 61) #[true, true, true, true, true, true, false, false, true, true, true, false, false, false, true, true, true, false, false, false, false, false, false, false, false] #[true, true, false, true, true, true, true, false, true, true, true, false, false, false, true, true, true, false, false, false, false, false, false, false, false] #[true, true, false, true, true, true, false, false, true, true, true, true, false, false, true, true, true, false, false, false, false, false, false, false, false] #[true, true, false, true, true, true, false, false, true, true, true, false, false, false, true, true, true, true, false, false, false, false, false, false, false] rfl rfl rfl rfl rfl rfl rfl rfl (by kernel_rfl) (by decide) (by decide) (by decide) (by decide) (fun K hK => ?_) (fun K hK => ?_) (fun K hK => ?_) (fun K hK => ?_)
                                                              · skip
                                                                refine goes_ Try.func12 (by kernel_rfl) rfl #[.slice (some ⟨g1_, 0, none⟩) 1 1] (by rfl) rfl rfl (by simp only [List.map_toArray, List.map_cons, List.map_nil]; rfl) ?_
                                                                with_reducible refine (of_one g1_ xs T0 _ h1_ hT0).mono ?_
                                                                rintro e w3 ⟨rfl, hb2_⟩
                                                                refine ⟨_, rfl, ?_⟩
                                                                refine hK.out _ _ trivial (fun hHeld => ?_)
                                                                clear hK K
                                                                refine norm_ (a' := ?_) ?_ ?_
                                                                rotate_left
                                                                · show Act.put _ (some 46) _ = _
                                                                  simp only [Act.put, List.setIfInBounds_toArray, List.set_cons_zero, List.set_cons_succ, i64_w, i32_w]
                                                                  rfl
                                                                exact norm_ (by first | (simp only [putAll, Act.put, List.setIfInBounds_toArray, List.set_cons_zero, List.set_cons_succ]; done) | (simp only [putAll, Act.put, List.setIfInBounds_toArray, List.set_cons_zero, List.set_cons_succ]; rfl)) (hJ1_2 g1_ _ (below_step hb_ hb2_))
                                                              · skip
                                                                refine value_ (w1 := ?_) (v := ?_) (by rfl) rfl ?_ ?_
                                                                rotate_left 2
                                                                · go_simp
                                                                  constructor
                                                                  · rfl
                                                                  · rfl
                                                                refine hK.out _ _ trivial (fun hHeld => ?_)
                                                                clear hK K
                                                                refine norm_ (a' := ?_) ?_ ?_
                                                                rotate_left
                                                                · show Act.put _ (some 50) _ = _
                                                                  simp only [Act.put, List.setIfInBounds_toArray, List.set_cons_zero, List.set_cons_succ, i64_w, i32_w]
                                                                  rfl
                                                                exact norm_ (by first | (simp only [putAll, Act.put, List.setIfInBounds_toArray, List.set_cons_zero, List.set_cons_succ]; done) | (simp only [putAll, Act.put, List.setIfInBounds_toArray, List.set_cons_zero, List.set_cons_succ]; rfl)) (hJ1_6 (g1_, wq.heap.size) _ ⟨(below_alloc hb_ _), (Kd.C_alloc h1_ _), (C_row1 _ wq.heap.size A0 c0 y0 _ 22 (0, 0) (heap_alloc_new wq _) (by rw [n0]) (Kd.C_alloc (Kd.C_below K1 hb_) _) hcap1)⟩)
                                                              · skip
                                                                refine value_ (w1 := ?_) (v := ?_) (by rfl) rfl ?_ ?_
                                                                rotate_left 2
                                                                · go_simp
                                                                  constructor
                                                                  · rfl
                                                                  · rfl
                                                                refine hK.out _ _ trivial (fun hHeld => ?_)
                                                                clear hK K
                                                                refine norm_ (a' := ?_) ?_ ?_
                                                                rotate_left
                                                                · show Act.put _ (some 55) _ = _
                                                                  simp only [Act.put, List.setIfInBounds_toArray, List.set_cons_zero, List.set_cons_succ, i64_w, i32_w]
                                                                  rfl
                                                                exact norm_ (by first | (simp only [putAll, Act.put, List.setIfInBounds_toArray, List.set_cons_zero, List.set_cons_succ]; done) | (simp only [putAll, Act.put, List.setIfInBounds_toArray, List.set_cons_zero, List.set_cons_succ]; rfl)) (hJ1_11 (g1_, wq.heap.size) _ ⟨(below_alloc hb_ _), (Kd.C_alloc h1_ _), (C_row1 _ wq.heap.size A1 c1 y1 _ 22 (0, 0) (heap_alloc_new wq _) (by rw [n1]) (Kd.C_alloc (Kd.C_below K2 hb_) _) hcap2)⟩)
                                                              · skip
                                                                refine value_ (w1 := ?_) (v := ?_) (by rfl) rfl ?_ ?_
                                                                rotate_left 2
                                                                · go_simp
                                                                  constructor
                                                                  · rfl
                                                                  · rfl
                                                                refine hK.out _ _ trivial (fun hHeld => ?_)
                                                                clear hK K
                                                                refine norm_ (a' := ?_) ?_ ?_
                                                                rotate_left
                                                                · show Act.put _ (some 61) _ = _
                                                                  simp only [Act.put, List.setIfInBounds_toArray, List.set_cons_zero, List.set_cons_succ, i64_w, i32_w]
                                                                  rfl
                                                                exact norm_ (by first | (simp only [putAll, Act.put, List.setIfInBounds_toArray, List.set_cons_zero, List.set_cons_succ]; done) | (simp only [putAll, Act.put, List.setIfInBounds_toArray, List.set_cons_zero, List.set_cons_succ]; rfl)) (hJ1_17 (g1_, wq.heap.size) _ ⟨(below_alloc hb_ _), (Kd.C_alloc h1_ _), (C_row1 _ wq.heap.size A2 c2 y2 _ 22 (0, 0) (heap_alloc_new wq _) (by rw [n2]) (Kd.C_alloc (Kd.C_below K3 hb_) _) hcap3)⟩)
                                                          · skip
                                                            rintro ⟨g11_, g17_⟩ wq ⟨hb_, h11_, h17_⟩
                                                            have hHeld := trivial
                                                            refine norm_ (a' := ?_) ?_ ?_
                                                            rotate_left
                                                            · simp only [putAll, Act.put, List.setIfInBounds_toArray, List.set_cons_zero, List.set_cons_succ]
                                                              rfl
                                                            refine two_ (i := 1) (j := 6) (Ni := some 45) (Nj := some 50) #[true, true, false, true, true, true, false, false, true, true, true, true, false, false, true, true, true, true, false, false, false, false, false, false, false] #[true, false, false, true, true, true, true, false, true, true, true, true, false, false, true, true, true, true, false, false, false, false, false, false, false] rfl rfl rfl rfl (by kernel_rfl) (by decide) (by decide) (fun K hK => ?_) (fun K hK => ?_)
                                                            · skip
                                                              refine value_ (w1 := ?_) (v := ?_) (by rfl) rfl ?_ ?_
                                                              rotate_left 2
                                                              · go_simp
                                                                constructor
                                                                · rfl
                                                                · rfl
                                                              refine hK.out _ _ trivial (fun hHeld => ?_)
                                                              clear hK K
                                                              refine norm_ (a' := ?_) ?_ ?_
                                                              rotate_left
                                                              · show Act.put _ (some 45) _ = _
                                                                simp only [Act.put, List.setIfInBounds_toArray, List.set_cons_zero, List.set_cons_succ, i64_w, i32_w]
                                                                rfl
                                                              exact norm_ (by first | (simp only [putAll, Act.put, List.setIfInBounds_toArray, List.set_cons_zero, List.set_cons_succ]; done) | (simp only [putAll, Act.put, List.setIfInBounds_toArray, List.set_cons_zero, List.set_cons_succ]; rfl)) (hJ1_11_17 (wq.heap.size, g11_, g17_) _ ⟨(below_alloc hb_ _), (C_row1 _ wq.heap.size Ao co xs _ 22 (0, 0) (heap_alloc_new wq _) (by rw [hlx]) (Kd.C_alloc (Kd.C_below K0 hb_) _) hcap0), (Kd.C_alloc h11_ _), (Kd.C_alloc h17_ _)⟩)
                                                            · skip
                                                              refine value_ (w1 := ?_) (v := ?_) (by rfl) rfl ?_ ?_
                                                              rotate_left 2
                                                              · go_simp
                                                                constructor
                                                                · rfl
                                                                · rfl
                                                              refine hK.out _ _ trivial (fun hHeld => ?_)
                                                              clear hK K
                                                              refine norm_ (a' := ?_) ?_ ?_
                                                              rotate_left
                                                              · show Act.put _ (some 50) _ = _
                                                                simp only [Act.put, List.setIfInBounds_toArray, List.set_cons_zero, List.set_cons_succ, i64_w, i32_w]
                                                                rfl
                                                              exact norm_ (by first | (simp only [putAll, Act.put, List.setIfInBounds_toArray, List.set_cons_zero, List.set_cons_succ]; done) | (simp only [putAll, Act.put, List.setIfInBounds_toArray, List.set_cons_zero, List.set_cons_succ]; rfl)) (hJ6_11_17 (wq.heap.size, g11_, g17_) _ ⟨(below_alloc hb_ _), (C_row1 _ wq.heap.size A0 c0 y0 _ 22 (0, 0) (heap_alloc_new wq _) (by rw [n0]) (Kd.C_alloc (Kd.C_below K1 hb_) _) hcap1), (Kd.C_alloc h11_ _), (Kd.C_alloc h17_ _)⟩)
                                                        · skip
                                                          rintro ⟨g6_, g17_⟩ wq ⟨hb_, h6_, h17_⟩
                                                          have hHeld := trivial
                                                          refine norm_ (a' := ?_) ?_ ?_
                                                          rotate_left
                                                          · simp only [putAll, Act.put, List.setIfInBounds_toArray, List.set_cons_zero, List.set_cons_succ]
                                                            rfl
                                                          refine two_ (i := 1) (j := 11) (Ni := some 45) (Nj := some 55) #[true, true, false, true, true, true, true, false, true, true, true, false, false, false, true, true, true, true, false, false, false, false, false, false, false] #[true, false, false, true, true, true, true, false, true, true, true, true, false, false, true, true, true, true, false, false, false, false, false, false, false] rfl rfl rfl rfl (by kernel_rfl) (by decide) (by decide) (fun K hK => ?_) (fun K hK => ?_)
                                                          · skip
                                                            refine value_ (w1 := ?_) (v := ?_) (by rfl) rfl ?_ ?_
                                                            rotate_left 2
                                                            · go_simp
                                                              constructor
                                                              · rfl
                                                              · rfl
                                                            refine hK.out _ _ trivial (fun hHeld => ?_)
                                                            clear hK K
                                                            refine norm_ (a' := ?_) ?_ ?_
                                                            rotate_left
                                                            · show Act.put _ (some 45) _ = _
                                                              simp only [Act.put, List.setIfInBounds_toArray, List.set_cons_zero, List.set_cons_succ, i64_w, i32_w]
                                                              rfl
                                                            exact norm_ (by first | (simp only [putAll, Act.put, List.setIfInBounds_toArray, List.set_cons_zero, List.set_cons_succ]; done) | (simp only [putAll, Act.put, List.setIfInBounds_toArray, List.set_cons_zero, List.set_cons_succ]; rfl)) (hJ1_6_17 (wq.heap.size, g6_, g17_) _ ⟨(below_alloc hb_ _), (C_row1 _ wq.heap.size Ao co xs _ 22 (0, 0) (heap_alloc_new wq _) (by rw [hlx]) (Kd.C_alloc (Kd.C_below K0 hb_) _) hcap0), (Kd.C_alloc h6_ _), (Kd.C_alloc h17_ _)⟩)
                                                          · skip
                                                            refine value_ (w1 := ?_) (v := ?_) (by rfl) rfl ?_ ?_
                                                            rotate_left 2
                                                            · go_simp
                                                              constructor
                                                              · rfl
                                                              · rfl
                                                            refine hK.out _ _ trivial (fun hHeld => ?_)
                                                            clear hK K
                                                            refine norm_ (a' := ?_) ?_ ?_
                                                            rotate_left
                                                            · show Act.put _ (some 55) _ = _
                                                              simp only [Act.put, List.setIfInBounds_toArray, List.set_cons_zero, List.set_cons_succ, i64_w, i32_w]
                                                              rfl
                                                            exact norm_ (by first | (simp only [putAll, Act.put, List.setIfInBounds_toArray, List.set_cons_zero, List.set_cons_succ]; done) | (simp only [putAll, Act.put, List.setIfInBounds_toArray, List.set_cons_zero, List.set_cons_succ]; rfl)) (hJ6_11_17 (g6_, wq.heap.size, g17_) _ ⟨(below_alloc hb_ _), (Kd.C_alloc h6_ _), (C_row1 _ wq.heap.size A1 c1 y1 _ 22 (0, 0) (heap_alloc_new wq _) (by rw [n1]) (Kd.C_alloc (Kd.C_below K2 hb_) _) hcap2), (Kd.C_alloc h17_ _)⟩)
                                                      · skip
                                                        rintro ⟨g6_, g11_⟩ wq ⟨hb_, h6_, h11_⟩
                                                        have hHeld := trivial
                                                        refine norm_ (a' := ?_) ?_ ?_
                                                        rotate_left
                                                        · simp only [putAll, Act.put, List.setIfInBounds_toArray, List.set_cons_zero, List.set_cons_succ]
                                                          rfl
                                                        refine two_ (i := 1) (j := 17) (Ni := some 45) (Nj := some 61) #[true, true, false, true, true, true, true, false, true, true, true, true, false, false, true, true, true, false, false, false, false, false, false, false, false] #[true, false, false, true, true, true, true, false, true, true, true, true, false, false, true, true, true, true, false, false, false, false, false, false, false] rfl rfl rfl rfl (by kernel_rfl) (by decide) (by decide) (fun K hK => ?_) (fun K hK => ?_)
                                                        · skip
                                                          refine value_ (w1 := ?_) (v := ?_) (by rfl) rfl ?_ ?_
                                                          rotate_left 2
                                                          · go_simp
                                                            constructor
                                                            · rfl
                                                            · rfl
                                                          refine hK.out _ _ trivial (fun hHeld => ?_)
                                                          clear hK K
                                                          refine norm_ (a' := ?_) ?_ ?_
                                                          rotate_left
                                                          · show Act.put _ (some 45) _ = _
                                                            simp only [Act.put, List.setIfInBounds_toArray, List.set_cons_zero, List.set_cons_succ, i64_w, i32_w]
                                                            rfl
                                                          exact norm_ (by first | (simp only [putAll, Act.put, List.setIfInBounds_toArray, List.set_cons_zero, List.set_cons_succ]; done) | (simp only [putAll, Act.put, List.setIfInBounds_toArray, List.set_cons_zero, List.set_cons_succ]; rfl)) (hJ1_6_11 (wq.heap.size, g6_, g11_) _ ⟨(below_alloc hb_ _), (C_row1 _ wq.heap.size Ao co xs _ 22 (0, 0) (heap_alloc_new wq _) (by rw [hlx]) (Kd.C_alloc (Kd.C_below K0 hb_) _) hcap0), (Kd.C_alloc h6_ _), (Kd.C_alloc h11_ _)⟩)
                                                        · skip
                                                          refine value_ (w1 := ?_) (v := ?_) (by rfl) rfl ?_ ?_
                                                          rotate_left 2
                                                          · go_simp
                                                            constructor
                                                            · rfl
                                                            · rfl
                                                          refine hK.out _ _ trivial (fun hHeld => ?_)
                                                          clear hK K
                                                          refine norm_ (a' := ?_) ?_ ?_
                                                          rotate_left
                                                          · show Act.put _ (some 61) _ = _
                                                            simp only [Act.put, List.setIfInBounds_toArray, List.set_cons_zero, List.set_cons_succ, i64_w, i32_w]
                                                            rfl
                                                          exact norm_ (by first | (simp only [putAll, Act.put, List.setIfInBounds_toArray, List.set_cons_zero, List.set_cons_succ]; done) | (simp only [putAll, Act.put, List.setIfInBounds_toArray, List.set_cons_zero, List.set_cons_succ]; rfl)) (hJ6_11_17 (g6_, g11_, wq.heap.size) _ ⟨(below_alloc hb_ _), (Kd.C_alloc h6_ _), (Kd.C_alloc h11_ _), (C_row1 _ wq.heap.size A2 c2 y2 _ 22 (0, 0) (heap_alloc_new wq _) (by rw [n2]) (Kd.C_alloc (Kd.C_below K3 hb_) _) hcap3)⟩)
                                                    · skip
                                                      rintro ⟨g1_, g17_⟩ wq ⟨hb_, h1_, h17_⟩
                                                      have hHeld := trivial
                                                      refine norm_ (a' := ?_) ?_ ?_
                                                      rotate_left
                                                      · simp only [putAll, Act.put, List.setIfInBounds_toArray, List.set_cons_zero, List.set_cons_succ]
                                                        rfl
                                                      refine three_ (i := 2) (j := 6) (k := 11) (Ni := some 46) (Nj := some 50) (Nk := some 55) #[true, true, true, true, true, true, false, false, true, true, true, false, false, false, true, true, true, true, false, false, false, false, false, false, false] #[true, true, false, true, true, true, true, false, true, true, true, false, false, false, true, true, true, true, false, false, false, false, false, false, false] #[true, true, false, true, true, true, false, false, true, true, true, true, false, false, true, true, true, true, false, false, false, false, false, false, false] rfl rfl rfl rfl rfl rfl (by kernel_rfl) (by decide) (by decide) (by decide) (fun K hK => ?_) (fun K hK => ?_) (fun K hK => ?_)
                                                      · skip
                                                        refine goes_ Try.func12 (by kernel_rfl) rfl #[.slice (some ⟨g1_, 0, none⟩) 1 1] (by rfl) rfl rfl (by simp only [List.map_toArray, List.map_cons, List.map_nil]; rfl) ?_
                                                        with_reducible refine (of_one g1_ xs T0 _ h1_ hT0).mono ?_
                                                        rintro e w3 ⟨rfl, hb2_⟩
                                                        refine ⟨_, rfl, ?_⟩
                                                        refine hK.out _ _ trivial (fun hHeld => ?_)
                                                        clear hK K
                                                        refine norm_ (a' := ?_) ?_ ?_
                                                        rotate_left
                                                        · show Act.put _ (some 46) _ = _
                                                          simp only [Act.put, List.setIfInBounds_toArray, List.set_cons_zero, List.set_cons_succ, i64_w, i32_w]
                                                          rfl
                                                        exact norm_ (by first | (simp only [putAll, Act.put, List.setIfInBounds_toArray, List.set_cons_zero, List.set_cons_succ]; done) | (simp only [putAll, Act.put, List.setIfInBounds_toArray, List.set_cons_zero, List.set_cons_succ]; rfl)) (hJ1_2_17 (g1_, g17_) _ ⟨(below_step hb_ hb2_), (Kd.C_below h17_ hb2_)⟩)
                                                      · skip
                                                        refine value_ (w1 := ?_) (v := ?_) (by rfl) rfl ?_ ?_
                                                        rotate_left 2
                                                        · go_simp
                                                          constructor
                                                          · rfl
                                                          · rfl
                                                        refine hK.out _ _ trivial (fun hHeld => ?_)
                                                        clear hK K
                                                        refine norm_ (a' := ?_) ?_ ?_
                                                        rotate_left
                                                        · show Act.put _ (some 50) _ = _
                                                          simp only [Act.put, List.setIfInBounds_toArray, List.set_cons_zero, List.set_cons_succ, i64_w, i32_w]
                                                          rfl
                                                        exact norm_ (by first | (simp only [putAll, Act.put, List.setIfInBounds_toArray, List.set_cons_zero, List.set_cons_succ]; done) | (simp only [putAll, Act.put, List.setIfInBounds_toArray, List.set_cons_zero, List.set_cons_succ]; rfl)) (hJ1_6_17 (g1_, wq.heap.size, g17_) _ ⟨(below_alloc hb_ _), (Kd.C_alloc h1_ _), (C_row1 _ wq.heap.size A0 c0 y0 _ 22 (0, 0) (heap_alloc_new wq _) (by rw [n0]) (Kd.C_alloc (Kd.C_below K1 hb_) _) hcap1), (Kd.C_alloc h17_ _)⟩)
                                                      · skip
                                                        refine value_ (w1 := ?_) (v := ?_) (by rfl) rfl ?_ ?_
                                                        rotate_left 2
                                                        · go_simp
                                                          constructor
                                                          · rfl
                                                          · rfl
                                                        refine hK.out _ _ trivial (fun hHeld => ?_)
                                                        clear hK K
                                                        refine norm_ (a' := ?_) ?_ ?_
                                                        rotate_left
                                                        · show Act.put _ (some 55) _ = _
                                                          simp only [Act.put, List.setIfInBounds_toArray, List.set_cons_zero, List.set_cons_succ, i64_w, i32_w]
                                                          rfl
                                                        exact norm_ (by first | (simp only [putAll, Act.put, List.setIfInBounds_toArray, List.set_cons_zero, List.set_cons_succ]; done) | (simp only [putAll, Act.put, List.setIfInBounds_toArray, List.set_cons_zero, List.set_cons_succ]; rfl)) (hJ1_11_17 (g1_, wq.heap.size, g17_) _ ⟨(below_alloc hb_ _), (Kd.C_alloc h1_ _), (C_row1 _ wq.heap.size A1 c1 y1 _ 22 (0, 0) (heap_alloc_new wq _) (by rw [n1]) (Kd.C_alloc (Kd.C_below K2 hb_) _) hcap2), (Kd.C_alloc h17_ _)⟩)
                                                  · skip
                                                    rintro ⟨g1_, g11_⟩ wq ⟨hb_, h1_, h11_⟩
                                                    have hHeld := trivial
                                                    refine norm_ (a' := ?_) ?_ ?_
                                                    rotate_left
                                                    · simp only [putAll, Act.put, List.setIfInBounds_toArray, List.set_cons_zero, List.set_cons_succ]
                                                      rfl
                                                    refine three_ (i := 2) (j := 6) (k := 17) (Ni := some 46) (Nj := some 50) (Nk := some 61) #[true, true, true, true, true, true, false, false, true, true, true, true, false, false, true, true, true, false, false, false, false, false, false, false, false] #[true, true, false, true, true, true, true, false, true, true, true, true, false, false, true, true, true, false, false, false, false, false, false, false, false] #[true, true, false, true, true, true, false, false, true, true, true, true, false, false, true, true, true, true, false, false, false, false, false, false, false] rfl rfl rfl rfl rfl rfl (by kernel_rfl) (by decide) (by decide) (by decide) (fun K hK => ?_) (fun K hK => ?_) (fun K hK => ?_)
                                                    · skip
                                                      refine goes_ Try.func12 (by kernel_rfl) rfl #[.slice (some ⟨g1_, 0, none⟩) 1 1] (by rfl) rfl rfl (by simp only [List.map_toArray, List.map_cons, List.map_nil]; rfl) ?_
                                                      with_reducible refine (of_one g1_ xs T0 _ h1_ hT0).mono ?_
                                                      rintro e w3 ⟨rfl, hb2_⟩
                                                      refine ⟨_, rfl, ?_⟩
                                                      refine hK.out _ _ trivial (fun hHeld => ?_)
                                                      clear hK K
                                                      refine norm_ (a' := ?_) ?_ ?_
                                                      rotate_left
                                                      · show Act.put _ (some 46) _ = _
                                                        simp only [Act.put, List.setIfInBounds_toArray, List.set_cons_zero, List.set_cons_succ, i64_w, i32_w]
                                                        rfl
                                                      exact norm_ (by first | (simp only [putAll, Act.put, List.setIfInBounds_toArray, List.set_cons_zero, List.set_cons_succ]; done) | (simp only [putAll, Act.put, List.setIfInBounds_toArray, List.set_cons_zero, List.set_cons_succ]; rfl)) (hJ1_2_11 (g1_, g11_) _ ⟨(below_step hb_ hb2_), (Kd.C_below h11_ hb2_)⟩)
                                                    · skip
                                                      refine value_ (w1 := ?_) (v := ?_) (by rfl) rfl ?_ ?_
                                                      rotate_left 2
                                                      · go_simp
                                                        constructor
                                                        · rfl
                                                        · rfl
                                                      refine hK.out _ _ trivial (fun hHeld => ?_)
                                                      clear hK K
                                                      refine norm_ (a' := ?_) ?_ ?_
                                                      rotate_left
                                                      · show Act.put _ (some 50) _ = _
                                                        simp only [Act.put, List.setIfInBounds_toArray, List.set_cons_zero, List.set_cons_succ, i64_w, i32_w]
                                                        rfl
                                                      exact norm_ (by first | (simp only [putAll, Act.put, List.setIfInBounds_toArray, List.set_cons_zero, List.set_cons_succ]; done) | (simp only [putAll, Act.put, List.setIfInBounds_toArray, List.set_cons_zero, List.set_cons_succ]; rfl)) (hJ1_6_11 (g1_, wq.heap.size, g11_) _ ⟨(below_alloc hb_ _), (Kd.C_alloc h1_ _), (C_row1 _ wq.heap.size A0 c0 y0 _ 22 (0, 0) (heap_alloc_new wq _) (by rw [n0]) (Kd.C_alloc (Kd.C_below K1 hb_) _) hcap1), (Kd.C_alloc h11_ _)⟩)
                                                    · skip
                                                      refine value_ (w1 := ?_) (v := ?_) (by rfl) rfl ?_ ?_
                                                      rotate_left 2
                                                      · go_simp
                                                        constructor
                                                        · rfl
                                                        · rfl
                                                      refine hK.out _ _ trivial (fun hHeld => ?_)
                                                      clear hK K
                                                      refine norm_ (a' := ?_) ?_ ?_
                                                      rotate_left
                                                      · show Act.put _ (some 61) _ = _
                                                        simp only [Act.put, List.setIfInBounds_toArray, List.set_cons_zero, List.set_cons_succ, i64_w, i32_w]
                                                        rfl
                                                      exact norm_ (by first | (simp only [putAll, Act.put, List.setIfInBounds_toArray, List.set_cons_zero, List.set_cons_succ]; done) | (simp only [putAll, Act.put, List.setIfInBounds_toArray, List.set_cons_zero, List.set_cons_succ]; rfl)) (hJ1_11_17 (g1_, g11_, wq.heap.size) _ ⟨(below_alloc hb_ _), (Kd.C_alloc h1_ _), (Kd.C_alloc h11_ _), (C_row1 _ wq.heap.size A2 c2 y2 _ 22 (0, 0) (heap_alloc_new wq _) (by rw [n2]) (Kd.C_alloc (Kd.C_below K3 hb_) _) hcap3)⟩)
                                                · skip
                                                  rintro ⟨g1_, g6_⟩ wq ⟨hb_, h1_, h6_⟩
                                                  have hHeld := trivial
                                                  refine norm_ (a' := ?_) ?_ ?_
                                                  rotate_left
                                                  · simp only [putAll, Act.put, List.setIfInBounds_toArray, List.set_cons_zero, List.set_cons_succ]
                                                    rfl
                                                  refine three_ (i := 2) (j := 11) (k := 17) (Ni := some 46) (Nj := some 55) (Nk := some 61) #[true, true, true, true, true, true, true, false, true, true, true, false, false, false, true, true, true, false, false, false, false, false, false, false, false] #[true, true, false, true, true, true, true, false, true, true, true, true, false, false, true, true, true, false, false, false, false, false, false, false, false] #[true, true, false, true, true, true, true, false, true, true, true, false, false, false, true, true, true, true, false, false, false, false, false, false, false] rfl rfl rfl rfl rfl rfl (by kernel_rfl) (by decide) (by decide) (by decide) (fun K hK => ?_) (fun K hK => ?_) (fun K hK => ?_)
                                                  · skip
                                                    refine goes_ Try.func12 (by kernel_rfl) rfl #[.slice (some ⟨g1_, 0, none⟩) 1 1] (by rfl) rfl rfl (by simp only [List.map_toArray, List.map_cons, List.map_nil]; rfl) ?_
                                                    with_reducible refine (of_one g1_ xs T0 _ h1_ hT0).mono ?_
                                                    rintro e w3 ⟨rfl, hb2_⟩
                                                    refine ⟨_, rfl, ?_⟩
                                                    refine hK.out _ _ trivial (fun hHeld => ?_)
                                                    clear hK K
                                                    refine norm_ (a' := ?_) ?_ ?_
                                                    rotate_left
                                                    · show Act.put _ (some 46) _ = _
                                                      simp only [Act.put, List.setIfInBounds_toArray, List.set_cons_zero, List.set_cons_succ, i64_w, i32_w]
                                                      rfl
                                                    exact norm_ (by first | (simp only [putAll, Act.put, List.setIfInBounds_toArray, List.set_cons_zero, List.set_cons_succ]; done) | (simp only [putAll, Act.put, List.setIfInBounds_toArray, List.set_cons_zero, List.set_cons_succ]; rfl)) (hJ1_2_6 (g1_, g6_) _ ⟨(below_step hb_ hb2_), (Kd.C_below h6_ hb2_)⟩)
                                                  · skip
                                                    refine value_ (w1 := ?_) (v := ?_) (by rfl) rfl ?_ ?_
                                                    rotate_left 2
                                                    · go_simp
                                                      constructor
                                                      · rfl
                                                      · rfl
                                                    refine hK.out _ _ trivial (fun hHeld => ?_)
                                                    clear hK K
                                                    refine norm_ (a' := ?_) ?_ ?_
                                                    rotate_left
                                                    · show Act.put _ (some 55) _ = _
                                                      simp only [Act.put, List.setIfInBounds_toArray, List.set_cons_zero, List.set_cons_succ, i64_w, i32_w]
                                                      rfl
                                                    exact norm_ (by first | (simp only [putAll, Act.put, List.setIfInBounds_toArray, List.set_cons_zero, List.set_cons_succ]; done) | (simp only [putAll, Act.put, List.setIfInBounds_toArray, List.set_cons_zero, List.set_cons_succ]; rfl)) (hJ1_6_11 (g1_, g6_, wq.heap.size) _ ⟨(below_alloc hb_ _), (Kd.C_alloc h1_ _), (Kd.C_alloc h6_ _), (C_row1 _ wq.heap.size A1 c1 y1 _ 22 (0, 0) (heap_alloc_new wq _) (by rw [n1]) (Kd.C_alloc (Kd.C_below K2 hb_) _) hcap2)⟩)
                                                  · skip
                                                    refine value_ (w1 := ?_) (v := ?_) (by rfl) rfl ?_ ?_
                                                    rotate_left 2
                                                    · go_simp
                                                      constructor
                                                      · rfl
                                                      · rfl
                                                    refine hK.out _ _ trivial (fun hHeld => ?_)
                                                    clear hK K
                                                    refine norm_ (a' := ?_) ?_ ?_
                                                    rotate_left
                                                    · show Act.put _ (some 61) _ = _
                                                      simp only [Act.put, List.setIfInBounds_toArray, List.set_cons_zero, List.set_cons_succ, i64_w, i32_w]
                                                      rfl
                                                    exact norm_ (by first | (simp only [putAll, Act.put, List.setIfInBounds_toArray, List.set_cons_zero, List.set_cons_succ]; done) | (simp only [putAll, Act.put, List.setIfInBounds_toArray, List.set_cons_zero, List.set_cons_succ]; rfl)) (hJ1_6_17 (g1_, g6_, wq.heap.size) _ ⟨(below_alloc hb_ _), (Kd.C_alloc h1_ _), (Kd.C_alloc h6_ _), (C_row1 _ wq.heap.size A2 c2 y2 _ 22 (0, 0) (heap_alloc_new wq _) (by rw [n2]) (Kd.C_alloc (Kd.C_below K3 hb_) _) hcap3)⟩)
                                              · skip
                                                rintro g1_ wq hb_
                                                have hHeld := trivial
                                                refine norm_ (a' := ?_) ?_ ?_
                                                rotate_left
                                                · simp only [putAll, Act.put, List.setIfInBounds_toArray, List.set_cons_zero, List.set_cons_succ]
                                                  rfl
                                                refine three_ (i := 6) (j := 11) (k := 17) (Ni := some 50) (Nj := some 55) (Nk := some 61) #[true, true, true, true, true, true, true, false, true, true, true, false, false, false, true, true, true, false, false, false, false, false, false, false, false] #[true, true, true, true, true, true, false, false, true, true, true, true, false, false, true, true, true, false, false, false, false, false, false, false, false] #[true, true, true, true, true, true, false, false, true, true, true, false, false, false, true, true, true, true, false, false, false, false, false, false, false] rfl rfl rfl rfl rfl rfl (by kernel_rfl) (by decide) (by decide) (by decide) (fun K hK => ?_) (fun K hK => ?_) (fun K hK => ?_)
                                                · skip
                                                  refine value_ (w1 := ?_) (v := ?_) (by rfl) rfl ?_ ?_
                                                  rotate_left 2
                                                  · go_simp
                                                    constructor
                                                    · rfl
                                                    · rfl
                                                  refine hK.out _ _ trivial (fun hHeld => ?_)
                                                  clear hK K
                                                  refine norm_ (a' := ?_) ?_ ?_
                                                  rotate_left
                                                  · show Act.put _ (some 50) _ = _
                                                    simp only [Act.put, List.setIfInBounds_toArray, List.set_cons_zero, List.set_cons_succ, i64_w, i32_w]
                                                    rfl
                                                  exact norm_ (by first | (simp only [putAll, Act.put, List.setIfInBounds_toArray, List.set_cons_zero, List.set_cons_succ]; done) | (simp only [putAll, Act.put, List.setIfInBounds_toArray, List.set_cons_zero, List.set_cons_succ]; rfl)) (hJ1_2_6 (g1_, wq.heap.size) _ ⟨(below_alloc hb_ _), (C_row1 _ wq.heap.size A0 c0 y0 _ 22 (0, 0) (heap_alloc_new wq _) (by rw [n0]) (Kd.C_alloc (Kd.C_below K1 hb_) _) hcap1)⟩)
                                                · skip
                                                  refine value_ (w1 := ?_) (v := ?_) (by rfl) rfl ?_ ?_
                                                  rotate_left 2
                                                  · go_simp
                                                    constructor
                                                    · rfl
                                                    · rfl
                                                  refine hK.out _ _ trivial (fun hHeld => ?_)
                                                  clear hK K
                                                  refine norm_ (a' := ?_) ?_ ?_
                                                  rotate_left
                                                  · show Act.put _ (some 55) _ = _
                                                    simp only [Act.put, List.setIfInBounds_toArray, List.set_cons_zero, List.set_cons_succ, i64_w, i32_w]
                                                    rfl
                                                  exact norm_ (by first | (simp only [putAll, Act.put, List.setIfInBounds_toArray, List.set_cons_zero, List.set_cons_succ]; done) | (simp only [putAll, Act.put, List.setIfInBounds_toArray, List.set_cons_zero, List.set_cons_succ]; rfl)) (hJ1_2_11 (g1_, wq.heap.size) _ ⟨(below_alloc hb_ _), (C_row1 _ wq.heap.size A1 c1 y1 _ 22 (0, 0) (heap_alloc_new wq _) (by rw [n1]) (Kd.C_alloc (Kd.C_below K2 hb_) _) hcap2)⟩)
                                                · skip
                                                  refine value_ (w1 := ?_) (v := ?_) (by rfl) rfl ?_ ?_
                                                  rotate_left 2
                                                  · go_simp
                                                    constructor
                                                    · rfl
                                                    · rfl
                                                  refine hK.out _ _ trivial (fun hHeld => ?_)
                                                  clear hK K
                                                  refine norm_ (a' := ?_) ?_ ?_
                                                  rotate_left
                                                  · show Act.put _ (some 61) _ = _
                                                    simp only [Act.put, List.setIfInBounds_toArray, List.set_cons_zero, List.set_cons_succ, i64_w, i32_w]
                                                    rfl
                                                  exact norm_ (by first | (simp only [putAll, Act.put, List.setIfInBounds_toArray, List.set_cons_zero, List.set_cons_succ]; done) | (simp only [putAll, Act.put, List.setIfInBounds_toArray, List.set_cons_zero, List.set_cons_succ]; rfl)) (hJ1_2_17 (g1_, wq.heap.size) _ ⟨(below_alloc hb_ _), (C_row1 _ wq.heap.size A2 c2 y2 _ 22 (0, 0) (heap_alloc_new wq _) (by rw [n2]) (Kd.C_alloc (Kd.C_below K3 hb_) _) hcap3)⟩)
                                            · skip
                                              rintro ⟨g6_, g11_, g17_⟩ wq ⟨hb_, h6_, h11_, h17_⟩
                                              have hHeld := trivial
                                              refine norm_ (a' := ?_) ?_ ?_
                                              rotate_left
                                              · simp only [putAll, Act.put, List.setIfInBounds_toArray, List.set_cons_zero, List.set_cons_succ]
                                                rfl
                                              refine one_ (i := 1) (N := some 45) #[true, true, false, true, true, true, true, false, true, true, true, true, false, false, true, true, true, true, false, false, false, false, false, false, false] rfl rfl (by kernel_rfl) (by decide) (fun K hK => ?_)
                                              refine value_ (w1 := ?_) (v := ?_) (by rfl) rfl ?_ ?_
                                              rotate_left 2
                                              · go_simp
                                                constructor
                                                · rfl
                                                · rfl
                                              refine hK.out _ _ trivial (fun hHeld => ?_)
                                              clear hK K
                                              refine norm_ (a' := ?_) ?_ ?_
                                              rotate_left
                                              · show Act.put _ (some 45) _ = _
                                                simp only [Act.put, List.setIfInBounds_toArray, List.set_cons_zero, List.set_cons_succ, i64_w, i32_w]
                                                rfl
                                              exact norm_ (by first | (simp only [putAll, Act.put, List.setIfInBounds_toArray, List.set_cons_zero, List.set_cons_succ]; done) | (simp only [putAll, Act.put, List.setIfInBounds_toArray, List.set_cons_zero, List.set_cons_succ]; rfl)) (hJ1_6_11_17 (wq.heap.size, g6_, g11_, g17_) _ ⟨(below_alloc hb_ _), (C_row1 _ wq.heap.size Ao co xs _ 22 (0, 0) (heap_alloc_new wq _) (by rw [hlx]) (Kd.C_alloc (Kd.C_below K0 hb_) _) hcap0), (Kd.C_alloc h6_ _), (Kd.C_alloc h11_ _), (Kd.C_alloc h17_ _)⟩)
                                          · skip
                                            rintro ⟨g1_, g11_, g17_⟩ wq ⟨hb_, h1_, h11_, h17_⟩
                                            have hHeld := trivial
                                            refine norm_ (a' := ?_) ?_ ?_
                                            rotate_left
                                            · simp only [putAll, Act.put, List.setIfInBounds_toArray, List.set_cons_zero, List.set_cons_succ]
                                              rfl
                                            refine two_ (i := 2) (j := 6) (Ni := some 46) (Nj := some 50) #[true, true, true, true, true, true, false, false, true, true, true, true, false, false, true, true, true, true, false, false, false, false, false, false, false] #[true, true, false, true, true, true, true, false, true, true, true, true, false, false, true, true, true, true, false, false, false, false, false, false, false] rfl rfl rfl rfl (by kernel_rfl) (by decide) (by decide) (fun K hK => ?_) (fun K hK => ?_)
                                            · skip
                                              refine goes_ Try.func12 (by kernel_rfl) rfl #[.slice (some ⟨g1_, 0, none⟩) 1 1] (by rfl) rfl rfl (by simp only [List.map_toArray, List.map_cons, List.map_nil]; rfl) ?_
                                              with_reducible refine (of_one g1_ xs T0 _ h1_ hT0).mono ?_
                                              rintro e w3 ⟨rfl, hb2_⟩
                                              refine ⟨_, rfl, ?_⟩
                                              refine hK.out _ _ trivial (fun hHeld => ?_)
                                              clear hK K
                                              refine norm_ (a' := ?_) ?_ ?_
                                              rotate_left
                                              · show Act.put _ (some 46) _ = _
                                                simp only [Act.put, List.setIfInBounds_toArray, List.set_cons_zero, List.set_cons_succ, i64_w, i32_w]
                                                rfl
                                              exact norm_ (by first | (simp only [putAll, Act.put, List.setIfInBounds_toArray, List.set_cons_zero, List.set_cons_succ]; done) | (simp only [putAll, Act.put, List.setIfInBounds_toArray, List.set_cons_zero, List.set_cons_succ]; rfl)) (hJ1_2_11_17 (g1_, g11_, g17_) _ ⟨(below_step hb_ hb2_), (Kd.C_below h11_ hb2_), (Kd.C_below h17_ hb2_)⟩)
                                            · skip
                                              refine value_ (w1 := ?_) (v := ?_) (by rfl) rfl ?_ ?_
                                              rotate_left 2
                                              · go_simp
                                                constructor
                                                · rfl
                                                · rfl
                                              refine hK.out _ _ trivial (fun hHeld => ?_)
                                              clear hK K
                                              refine norm_ (a' := ?_) ?_ ?_
                                              rotate_left
                                              · show Act.put _ (some 50) _ = _
                                                simp only [Act.put, List.setIfInBounds_toArray, List.set_cons_zero, List.set_cons_succ, i64_w, i32_w]
                                                rfl
                                              exact norm_ (by first | (simp only [putAll, Act.put, List.setIfInBounds_toArray, List.set_cons_zero, List.set_cons_succ]; done) | (simp only [putAll, Act.put, List.setIfInBounds_toArray, List.set_cons_zero, List.set_cons_succ]; rfl)) (hJ1_6_11_17 (g1_, wq.heap.size, g11_, g17_) _ ⟨(below_alloc hb_ _), (Kd.C_alloc h1_ _), (C_row1 _ wq.heap.size A0 c0 y0 _ 22 (0, 0) (heap_alloc_new wq _) (by rw [n0]) (Kd.C_alloc (Kd.C_below K1 hb_) _) hcap1), (Kd.C_alloc h11_ _), (Kd.C_alloc h17_ _)⟩)
                                        · skip
                                          rintro ⟨g1_, g6_, g17_⟩ wq ⟨hb_, h1_, h6_, h17_⟩
                                          have hHeld := trivial
                                          refine norm_ (a' := ?_) ?_ ?_
                                          rotate_left
                                          · simp only [putAll, Act.put, List.setIfInBounds_toArray, List.set_cons_zero, List.set_cons_succ]
                                            rfl
                                          refine two_ (i := 2) (j := 11) (Ni := some 46) (Nj := some 55) #[true, true, true, true, true, true, true, false, true, true, true, false, false, false, true, true, true, true, false, false, false, false, false, false, false] #[true, true, false, true, true, true, true, false, true, true, true, true, false, false, true, true, true, true, false, false, false, false, false, false, false] rfl rfl rfl rfl (by kernel_rfl) (by decide) (by decide) (fun K hK => ?_) (fun K hK => ?_)
                                          · skip
                                            refine goes_ Try.func12 (by kernel_rfl) rfl #[.slice (some ⟨g1_, 0, none⟩) 1 1] (by rfl) rfl rfl (by simp only [List.map_toArray, List.map_cons, List.map_nil]; rfl) ?_
                                            with_reducible refine (of_one g1_ xs T0 _ h1_ hT0).mono ?_
                                            rintro e w3 ⟨rfl, hb2_⟩
                                            refine ⟨_, rfl, ?_⟩
                                            refine hK.out _ _ trivial (fun hHeld => ?_)
                                            clear hK K
                                            refine norm_ (a' := ?_) ?_ ?_
                                            rotate_left
                                            · show Act.put _ (some 46) _ = _
                                              simp only [Act.put, List.setIfInBounds_toArray, List.set_cons_zero, List.set_cons_succ, i64_w, i32_w]
                                              rfl
                                            exact norm_ (by first | (simp only [putAll, Act.put, List.setIfInBounds_toArray, List.set_cons_zero, List.set_cons_succ]; done) | (simp only [putAll, Act.put, List.setIfInBounds_toArray, List.set_cons_zero, List.set_cons_succ]; rfl)) (hJ1_2_6_17 (g1_, g6_, g17_) _ ⟨(below_step hb_ hb2_), (Kd.C_below h6_ hb2_), (Kd.C_below h17_ hb2_)⟩)
                                          · skip
                                            refine value_ (w1 := ?_) (v := ?_) (by rfl) rfl ?_ ?_
                                            rotate_left 2
                                            · go_simp
                                              constructor
                                              · rfl
                                              · rfl
                                            refine hK.out _ _ trivial (fun hHeld => ?_)
                                            clear hK K
                                            refine norm_ (a' := ?_) ?_ ?_
                                            rotate_left
                                            · show Act.put _ (some 55) _ = _
                                              simp only [Act.put, List.setIfInBounds_toArray, List.set_cons_zero, List.set_cons_succ, i64_w, i32_w]
                                              rfl
                                            exact norm_ (by first | (simp only [putAll, Act.put, List.setIfInBounds_toArray, List.set_cons_zero, List.set_cons_succ]; done) | (simp only [putAll, Act.put, List.setIfInBounds_toArray, List.set_cons_zero, List.set_cons_succ]; rfl)) (hJ1_6_11_17 (g1_, g6_, wq.heap.size, g17_) _ ⟨(below_alloc hb_ _), (Kd.C_alloc h1_ _), (Kd.C_alloc h6_ _), (C_row1 _ wq.heap.size A1 c1 y1 _ 22 (0, 0) (heap_alloc_new wq _) (by rw [n1]) (Kd.C_alloc (Kd.C_below K2 hb_) _) hcap2), (Kd.C_alloc h17_ _)⟩)
                                      · skip
                                        rintro ⟨g1_, g6_, g11_⟩ wq ⟨hb_, h1_, h6_, h11_⟩
                                        have hHeld := trivial
                                        refine norm_ (a' := ?_) ?_ ?_
                                        rotate_left
                                        · simp only [putAll, Act.put, List.setIfInBounds_toArray, List.set_cons_zero, List.set_cons_succ]
                                          rfl
                                        refine two_ (i := 2) (j := 17) (Ni := some 46) (Nj := some 61) #[true, true, true, true, true, true, true, false, true, true, true, true, false, false, true, true, true, false, false, false, false, false, false, false, false] #[true, true, false, true, true, true, true, false, true, true, true, true, false, false, true, true, true, true, false, false, false, false, false, false, false] rfl rfl rfl rfl (by kernel_rfl) (by decide) (by decide) (fun K hK => ?_) (fun K hK => ?_)
                                        · skip
                                          refine goes_ Try.func12 (by kernel_rfl) rfl #[.slice (some ⟨g1_, 0, none⟩) 1 1] (by rfl) rfl rfl (by simp only [List.map_toArray, List.map_cons, List.map_nil]; rfl) ?_
                                          with_reducible refine (of_one g1_ xs T0 _ h1_ hT0).mono ?_
                                          rintro e w3 ⟨rfl, hb2_⟩
                                          refine ⟨_, rfl, ?_⟩
                                          refine hK.out _ _ trivial (fun hHeld => ?_)
                                          clear hK K
                                          refine norm_ (a' := ?_) ?_ ?_
                                          rotate_left
                                          · show Act.put _ (some 46) _ = _
                                            simp only [Act.put, List.setIfInBounds_toArray, List.set_cons_zero, List.set_cons_succ, i64_w, i32_w]
                                            rfl
                                          exact norm_ (by first | (simp only [putAll, Act.put, List.setIfInBounds_toArray, List.set_cons_zero, List.set_cons_succ]; done) | (simp only [putAll, Act.put, List.setIfInBounds_toArray, List.set_cons_zero, List.set_cons_succ]; rfl)) (hJ1_2_6_11 (g1_, g6_, g11_) _ ⟨(below_step hb_ hb2_), (Kd.C_below h6_ hb2_), (Kd.C_below h11_ hb2_)⟩)
                                        · skip
                                          refine value_ (w1 := ?_) (v := ?_) (by rfl) rfl ?_ ?_
                                          rotate_left 2
                                          · go_simp
                                            constructor
                                            · rfl
                                            · rfl
                                          refine hK.out _ _ trivial (fun hHeld => ?_)
                                          clear hK K
                                          refine norm_ (a' := ?_) ?_ ?_
                                          rotate_left
                                          · show Act.put _ (some 61) _ = _
                                            simp only [Act.put, List.setIfInBounds_toArray, List.set_cons_zero, List.set_cons_succ, i64_w, i32_w]
                                            rfl
                                          exact norm_ (by first | (simp only [putAll, Act.put, List.setIfInBounds_toArray, List.set_cons_zero, List.set_cons_succ]; done) | (simp only [putAll, Act.put, List.setIfInBounds_toArray, List.set_cons_zero, List.set_cons_succ]; rfl)) (hJ1_6_11_17 (g1_, g6_, g11_, wq.heap.size) _ ⟨(below_alloc hb_ _), (Kd.C_alloc h1_ _), (Kd.C_alloc h6_ _), (Kd.C_alloc h11_ _), (C_row1 _ wq.heap.size A2 c2 y2 _ 22 (0, 0) (heap_alloc_new wq _) (by rw [n2]) (Kd.C_alloc (Kd.C_below K3 hb_) _) hcap3)⟩)
                                    · skip
                                      rintro ⟨g1_, g17_⟩ wq ⟨hb_, h17_⟩
                                      have hHeld := trivial
                                      refine norm_ (a' := ?_) ?_ ?_
                                      rotate_left
                                      · simp only [putAll, Act.put, List.setIfInBounds_toArray, List.set_cons_zero, List.set_cons_succ]
                                        rfl
                                      refine two_ (i := 6) (j := 11) (Ni := some 50) (Nj := some 55) #[true, true, true, true, true, true, true, false, true, true, true, false, false, false, true, true, true, true, false, false, false, false, false, false, false] #[true, true, true, true, true, true, false, false, true, true, true, true, false, false, true, true, true, true, false, false, false, false, false, false, false] rfl rfl rfl rfl (by kernel_rfl) (by decide) (by decide) (fun K hK => ?_) (fun K hK => ?_)
                                      · skip
                                        refine value_ (w1 := ?_) (v := ?_) (by rfl) rfl ?_ ?_
                                        rotate_left 2
                                        · go_simp
                                          constructor
                                          · rfl
                                          · rfl
                                        refine hK.out _ _ trivial (fun hHeld => ?_)
                                        clear hK K
                                        refine norm_ (a' := ?_) ?_ ?_
                                        rotate_left
                                        · show Act.put _ (some 50) _ = _
                                          simp only [Act.put, List.setIfInBounds_toArray, List.set_cons_zero, List.set_cons_succ, i64_w, i32_w]
                                          rfl
                                        exact norm_ (by first | (simp only [putAll, Act.put, List.setIfInBounds_toArray, List.set_cons_zero, List.set_cons_succ]; done) | (simp only [putAll, Act.put, List.setIfInBounds_toArray, List.set_cons_zero, List.set_cons_succ]; rfl)) (hJ1_2_6_17 (g1_, wq.heap.size, g17_) _ ⟨(below_alloc hb_ _), (C_row1 _ wq.heap.size A0 c0 y0 _ 22 (0, 0) (heap_alloc_new wq _) (by rw [n0]) (Kd.C_alloc (Kd.C_below K1 hb_) _) hcap1), (Kd.C_alloc h17_ _)⟩)
                                      · skip
                                        refine value_ (w1 := ?_) (v := ?_) (by rfl) rfl ?_ ?_
                                        rotate_left 2
                                        · go_simp
                                          constructor
                                          · rfl
                                          · rfl
                                        refine hK.out _ _ trivial (fun hHeld => ?_)
                                        clear hK K
                                        refine norm_ (a' := ?_) ?_ ?_
                                        rotate_left
                                        · show Act.put _ (some 55) _ = _
                                          simp only [Act.put, List.setIfInBounds_toArray, List.set_cons_zero, List.set_cons_succ, i64_w, i32_w]
                                          rfl
                                        exact norm_ (by first | (simp only [putAll, Act.put, List.setIfInBounds_toArray, List.set_cons_zero, List.set_cons_succ]; done) | (simp only [putAll, Act.put, List.setIfInBounds_toArray, List.set_cons_zero, List.set_cons_succ]; rfl)) (hJ1_2_11_17 (g1_, wq.heap.size, g17_) _ ⟨(below_alloc hb_ _), (C_row1 _ wq.heap.size A1 c1 y1 _ 22 (0, 0) (heap_alloc_new wq _) (by rw [n1]) (Kd.C_alloc (Kd.C_below K2 hb_) _) hcap2), (Kd.C_alloc h17_ _)⟩)
                                  · skip
                                    rintro ⟨g1_, g11_⟩ wq ⟨hb_, h11_⟩
                                    have hHeld := trivial
                                    refine norm_ (a' := ?_) ?_ ?_
                                    rotate_left
                                    · simp only [putAll, Act.put, List.setIfInBounds_toArray, List.set_cons_zero, List.set_cons_succ]
                                      rfl
                                    refine two_ (i := 6) (j := 17) (Ni := some 50) (Nj := some 61) #[true, true, true, true, true, true, true, false, true, true, true, true, false, false, true, true, true, false, false, false, false, false, false, false, false] #[true, true, true, true, true, true, false, false, true, true, true, true, false, false, true, true, true, true, false, false, false, false, false, false, false] rfl rfl rfl rfl (by kernel_rfl) (by decide) (by decide) (fun K hK => ?_) (fun K hK => ?_)
                                    · skip
                                      refine value_ (w1 := ?_) (v := ?_) (by rfl) rfl ?_ ?_
                                      rotate_left 2
                                      · go_simp
                                        constructor
                                        · rfl
                                        · rfl
                                      refine hK.out _ _ trivial (fun hHeld => ?_)
                                      clear hK K
                                      refine norm_ (a' := ?_) ?_ ?_
                                      rotate_left
                                      · show Act.put _ (some 50) _ = _
                                        simp only [Act.put, List.setIfInBounds_toArray, List.set_cons_zero, List.set_cons_succ, i64_w, i32_w]
                                        rfl
                                      exact norm_ (by first | (simp only [putAll, Act.put, List.setIfInBounds_toArray, List.set_cons_zero, List.set_cons_succ]; done) | (simp only [putAll, Act.put, List.setIfInBounds_toArray, List.set_cons_zero, List.set_cons_succ]; rfl)) (hJ1_2_6_11 (g1_, wq.heap.size, g11_) _ ⟨(below_alloc hb_ _), (C_row1 _ wq.heap.size A0 c0 y0 _ 22 (0, 0) (heap_alloc_new wq _) (by rw [n0]) (Kd.C_alloc (Kd.C_below K1 hb_) _) hcap1), (Kd.C_alloc h11_ _)⟩)
                                    · skip
                                      refine value_ (w1 := ?_) (v := ?_) (by rfl) rfl ?_ ?_
                                      rotate_left 2
                                      · go_simp
                                        constructor
                                        · rfl
                                        · rfl
                                      refine hK.out _ _ trivial (fun hHeld => ?_)
                                      clear hK K
                                      refine norm_ (a' := ?_) ?_ ?_
                                      rotate_left
                                      · show Act.put _ (some 61) _ = _
                                        simp only [Act.put, List.setIfInBounds_toArray, List.set_cons_zero, List.set_cons_succ, i64_w, i32_w]
                                        rfl
                                      exact norm_ (by first | (simp only [putAll, Act.put, List.setIfInBounds_toArray, List.set_cons_zero, List.set_cons_succ]; done) | (simp only [putAll, Act.put, List.setIfInBounds_toArray, List.set_cons_zero, List.set_cons_succ]; rfl)) (hJ1_2_11_17 (g1_, g11_, wq.heap.size) _ ⟨(below_alloc hb_ _), (Kd.C_alloc h11_ _), (C_row1 _ wq.heap.size A2 c2 y2 _ 22 (0, 0) (heap_alloc_new wq _) (by rw [n2]) (Kd.C_alloc (Kd.C_below K3 hb_) _) hcap3)⟩)
                                · skip
                                  rintro ⟨g1_, g6_⟩ wq ⟨hb_, h6_⟩
                                  have hHeld := trivial
                                  refine norm_ (a' := ?_) ?_ ?_
                                  rotate_left
                                  · simp only [putAll, Act.put, List.setIfInBounds_toArray, List.set_cons_zero, List.set_cons_succ]
                                    rfl
                                  refine three_ (i := 7) (j := 11) (k := 17) (Ni := some 51) (Nj := some 55) (Nk := some 61) #[true, true, true, true, true, true, true, true, true, true, true, false, false, false, true, true, true, false, false, false, false, false, false, false, false] #[true, true, true, true, true, true, true, false, true, true, true, true, false, false, true, true, true, false, false, false, false, false, false, false, false] #[true, true, true, true, true, true, true, false, true, true, true, false, false, false, true, true, true, true, false, false, false, false, false, false, false] rfl rfl rfl rfl rfl rfl (by kernel_rfl) (by decide) (by decide) (by decide) (fun K hK => ?_) (fun K hK => ?_) (fun K hK => ?_)
                                  · skip
                                    refine goes_ Try.func12 (by kernel_rfl) rfl #[.slice (some ⟨g6_, 0, none⟩) 1 1] (by rfl) rfl rfl (by simp only [List.map_toArray, List.map_cons, List.map_nil]; rfl) ?_
                                    with_reducible refine (of_one g6_ y0 T1 _ h6_ hT1).mono ?_
                                    rintro e w3 ⟨rfl, hb2_⟩
                                    refine ⟨_, rfl, ?_⟩
                                    refine hK.out _ _ trivial (fun hHeld => ?_)
                                    clear hK K
                                    refine norm_ (a' := ?_) ?_ ?_
                                    rotate_left
                                    · show Act.put _ (some 51) _ = _
                                      simp only [Act.put, List.setIfInBounds_toArray, List.set_cons_zero, List.set_cons_succ, i64_w, i32_w]
                                      rfl
                                    exact norm_ (by first | (simp only [putAll, Act.put, List.setIfInBounds_toArray, List.set_cons_zero, List.set_cons_succ]; done) | (simp only [putAll, Act.put, List.setIfInBounds_toArray, List.set_cons_zero, List.set_cons_succ]; rfl)) (hJ1_2_6_7 (g1_, g6_) _ (below_step hb_ hb2_))
                                  · skip
                                    refine value_ (w1 := ?_) (v := ?_) (by rfl) rfl ?_ ?_
                                    rotate_left 2
                                    · go_simp
                                      constructor
                                      · rfl
                                      · rfl
                                    refine hK.out _ _ trivial (fun hHeld => ?_)
                                    clear hK K
                                    refine norm_ (a' := ?_) ?_ ?_
                                    rotate_left
                                    · show Act.put _ (some 55) _ = _
                                      simp only [Act.put, List.setIfInBounds_toArray, List.set_cons_zero, List.set_cons_succ, i64_w, i32_w]
                                      rfl
                                    exact norm_ (by first | (simp only [putAll, Act.put, List.setIfInBounds_toArray, List.set_cons_zero, List.set_cons_succ]; done) | (simp only [putAll, Act.put, List.setIfInBounds_toArray, List.set_cons_zero, List.set_cons_succ]; rfl)) (hJ1_2_6_11 (g1_, g6_, wq.heap.size) _ ⟨(below_alloc hb_ _), (Kd.C_alloc h6_ _), (C_row1 _ wq.heap.size A1 c1 y1 _ 22 (0, 0) (heap_alloc_new wq _) (by rw [n1]) (Kd.C_alloc (Kd.C_below K2 hb_) _) hcap2)⟩)
                                  · skip
                                    refine value_ (w1 := ?_) (v := ?_) (by rfl) rfl ?_ ?_
                                    rotate_left 2
                                    · go_simp
                                      constructor
                                      · rfl
                                      · rfl
                                    refine hK.out _ _ trivial (fun hHeld => ?_)
                                    clear hK K
                                    refine norm_ (a' := ?_) ?_ ?_
                                    rotate_left
                                    · show Act.put _ (some 61) _ = _
                                      simp only [Act.put, List.setIfInBounds_toArray, List.set_cons_zero, List.set_cons_succ, i64_w, i32_w]
                                      rfl
                                    exact norm_ (by first | (simp only [putAll, Act.put, List.setIfInBounds_toArray, List.set_cons_zero, List.set_cons_succ]; done) | (simp only [putAll, Act.put, List.setIfInBounds_toArray, List.set_cons_zero, List.set_cons_succ]; rfl)) (hJ1_2_6_17 (g1_, g6_, wq.heap.size) _ ⟨(below_alloc hb_ _), (Kd.C_alloc h6_ _), (C_row1 _ wq.heap.size A2 c2 y2 _ 22 (0, 0) (heap_alloc_new wq _) (by rw [n2]) (Kd.C_alloc (Kd.C_below K3 hb_) _) hcap3)⟩)
                              · skip
                                rintro ⟨g1_, g6_, g11_, g17_⟩ wq ⟨hb_, h1_, h6_, h11_, h17_⟩
                                have hHeld := trivial
                                refine norm_ (a' := ?_) ?_ ?_
                                rotate_left
                                · simp only [putAll, Act.put, List.setIfInBounds_toArray, List.set_cons_zero, List.set_cons_succ]
                                  rfl
                                refine one_ (i := 2) (N := some 46) #[true, true, true, true, true, true, true, false, true, true, true, true, false, false, true, true, true, true, false, false, false, false, false, false, false] rfl rfl (by kernel_rfl) (by decide) (fun K hK => ?_)
                                refine goes_ Try.func12 (by kernel_rfl) rfl #[.slice (some ⟨g1_, 0, none⟩) 1 1] (by rfl) rfl rfl (by simp only [List.map_toArray, List.map_cons, List.map_nil]; rfl) ?_
                                with_reducible refine (of_one g1_ xs T0 _ h1_ hT0).mono ?_
                                rintro e w3 ⟨rfl, hb2_⟩
                                refine ⟨_, rfl, ?_⟩
                                refine hK.out _ _ trivial (fun hHeld => ?_)
                                clear hK K
                                refine norm_ (a' := ?_) ?_ ?_
                                rotate_left
                                · show Act.put _ (some 46) _ = _
                                  simp only [Act.put, List.setIfInBounds_toArray, List.set_cons_zero, List.set_cons_succ, i64_w, i32_w]
                                  rfl
                                exact norm_ (by first | (simp only [putAll, Act.put, List.setIfInBounds_toArray, List.set_cons_zero, List.set_cons_succ]; done) | (simp only [putAll, Act.put, List.setIfInBounds_toArray, List.set_cons_zero, List.set_cons_succ]; rfl)) (hJ1_2_6_11_17 (g1_, g6_, g11_, g17_) _ ⟨(below_step hb_ hb2_), (Kd.C_below h6_ hb2_), (Kd.C_below h11_ hb2_), (Kd.C_below h17_ hb2_)⟩)
                            · skip
                              rintro ⟨g1_, g11_, g17_⟩ wq ⟨hb_, h11_, h17_⟩
                              have hHeld := trivial
                              refine norm_ (a' := ?_) ?_ ?_
                              rotate_left
                              · simp only [putAll, Act.put, List.setIfInBounds_toArray, List.set_cons_zero, List.set_cons_succ]
                                rfl
                              refine one_ (i := 6) (N := some 50) #[true, true, true, true, true, true, true, false, true, true, true, true, false, false, true, true, true, true, false, false, false, false, false, false, false] rfl rfl (by kernel_rfl) (by decide) (fun K hK => ?_)
                              refine value_ (w1 := ?_) (v := ?_) (by rfl) rfl ?_ ?_
                              rotate_left 2
                              · go_simp
                                constructor
                                · rfl
                                · rfl
                              refine hK.out _ _ trivial (fun hHeld => ?_)
                              clear hK K
                              refine norm_ (a' := ?_) ?_ ?_
                              rotate_left
                              · show Act.put _ (some 50) _ = _
                                simp only [Act.put, List.setIfInBounds_toArray, List.set_cons_zero, List.set_cons_succ, i64_w, i32_w]
                                rfl
                              exact norm_ (by first | (simp only [putAll, Act.put, List.setIfInBounds_toArray, List.set_cons_zero, List.set_cons_succ]; done) | (simp only [putAll, Act.put, List.setIfInBounds_toArray, List.set_cons_zero, List.set_cons_succ]; rfl)) (hJ1_2_6_11_17 (g1_, wq.heap.size, g11_, g17_) _ ⟨(below_alloc hb_ _), (C_row1 _ wq.heap.size A0 c0 y0 _ 22 (0, 0) (heap_alloc_new wq _) (by rw [n0]) (Kd.C_alloc (Kd.C_below K1 hb_) _) hcap1), (Kd.C_alloc h11_ _), (Kd.C_alloc h17_ _)⟩)
                          · skip
                            rintro ⟨g1_, g6_, g17_⟩ wq ⟨hb_, h6_, h17_⟩
                            have hHeld := trivial
                            refine norm_ (a' := ?_) ?_ ?_
                            rotate_left
                            · simp only [putAll, Act.put, List.setIfInBounds_toArray, List.set_cons_zero, List.set_cons_succ]
                              rfl
                            refine two_ (i := 7) (j := 11) (Ni := some 51) (Nj := some 55) #[true, true, true, true, true, true, true, true, true, true, true, false, false, false, true, true, true, true, false, false, false, false, false, false, false] #[true, true, true, true, true, true, true, false, true, true, true, true, false, false, true, true, true, true, false, false, false, false, false, false, false] rfl rfl rfl rfl (by kernel_rfl) (by decide) (by decide) (fun K hK => ?_) (fun K hK => ?_)
                            · skip
                              refine goes_ Try.func12 (by kernel_rfl) rfl #[.slice (some ⟨g6_, 0, none⟩) 1 1] (by rfl) rfl rfl (by simp only [List.map_toArray, List.map_cons, List.map_nil]; rfl) ?_
                              with_reducible refine (of_one g6_ y0 T1 _ h6_ hT1).mono ?_
                              rintro e w3 ⟨rfl, hb2_⟩
                              refine ⟨_, rfl, ?_⟩
                              refine hK.out _ _ trivial (fun hHeld => ?_)
                              clear hK K
                              refine norm_ (a' := ?_) ?_ ?_
                              rotate_left
                              · show Act.put _ (some 51) _ = _
                                simp only [Act.put, List.setIfInBounds_toArray, List.set_cons_zero, List.set_cons_succ, i64_w, i32_w]
                                rfl
                              exact norm_ (by first | (simp only [putAll, Act.put, List.setIfInBounds_toArray, List.set_cons_zero, List.set_cons_succ]; done) | (simp only [putAll, Act.put, List.setIfInBounds_toArray, List.set_cons_zero, List.set_cons_succ]; rfl)) (hJ1_2_6_7_17 (g1_, g6_, g17_) _ ⟨(below_step hb_ hb2_), (Kd.C_below h17_ hb2_)⟩)
                            · skip
                              refine value_ (w1 := ?_) (v := ?_) (by rfl) rfl ?_ ?_
                              rotate_left 2
                              · go_simp
                                constructor
                                · rfl
                                · rfl
                              refine hK.out _ _ trivial (fun hHeld => ?_)
                              clear hK K
                              refine norm_ (a' := ?_) ?_ ?_
                              rotate_left
                              · show Act.put _ (some 55) _ = _
                                simp only [Act.put, List.setIfInBounds_toArray, List.set_cons_zero, List.set_cons_succ, i64_w, i32_w]
                                rfl
                              exact norm_ (by first | (simp only [putAll, Act.put, List.setIfInBounds_toArray, List.set_cons_zero, List.set_cons_succ]; done) | (simp only [putAll, Act.put, List.setIfInBounds_toArray, List.set_cons_zero, List.set_cons_succ]; rfl)) (hJ1_2_6_11_17 (g1_, g6_, wq.heap.size, g17_) _ ⟨(below_alloc hb_ _), (Kd.C_alloc h6_ _), (C_row1 _ wq.heap.size A1 c1 y1 _ 22 (0, 0) (heap_alloc_new wq _) (by rw [n1]) (Kd.C_alloc (Kd.C_below K2 hb_) _) hcap2), (Kd.C_alloc h17_ _)⟩)
                        · skip
                          rintro ⟨g1_, g6_, g11_⟩ wq ⟨hb_, h6_, h11_⟩
                          have hHeld := trivial
                          refine norm_ (a' := ?_) ?_ ?_
                          rotate_left
                          · simp only [putAll, Act.put, List.setIfInBounds_toArray, List.set_cons_zero, List.set_cons_succ]
                            rfl
                          refine two_ (i := 7) (j := 17) (Ni := some 51) (Nj := some 61) #[true, true, true, true, true, true, true, true, true, true, true, true, false, false, true, true, true, false, false, false, false, false, false, false, false] #[true, true, true, true, true, true, true, false, true, true, true, true, false, false, true, true, true, true, false, false, false, false, false, false, false] rfl rfl rfl rfl (by kernel_rfl) (by decide) (by decide) (fun K hK => ?_) (fun K hK => ?_)
                          · skip
                            refine goes_ Try.func12 (by kernel_rfl) rfl #[.slice (some ⟨g6_, 0, none⟩) 1 1] (by rfl) rfl rfl (by simp only [List.map_toArray, List.map_cons, List.map_nil]; rfl) ?_
                            with_reducible refine (of_one g6_ y0 T1 _ h6_ hT1).mono ?_
                            rintro e w3 ⟨rfl, hb2_⟩
                            refine ⟨_, rfl, ?_⟩
                            refine hK.out _ _ trivial (fun hHeld => ?_)
                            clear hK K
                            refine norm_ (a' := ?_) ?_ ?_
                            rotate_left
                            · show Act.put _ (some 51) _ = _
                              simp only [Act.put, List.setIfInBounds_toArray, List.set_cons_zero, List.set_cons_succ, i64_w, i32_w]
                              rfl
                            exact norm_ (by first | (simp only [putAll, Act.put, List.setIfInBounds_toArray, List.set_cons_zero, List.set_cons_succ]; done) | (simp only [putAll, Act.put, List.setIfInBounds_toArray, List.set_cons_zero, List.set_cons_succ]; rfl)) (hJ1_2_6_7_11 (g1_, g6_, g11_) _ ⟨(below_step hb_ hb2_), (Kd.C_below h11_ hb2_)⟩)
                          · skip
                            refine value_ (w1 := ?_) (v := ?_) (by rfl) rfl ?_ ?_
                            rotate_left 2
                            · go_simp
                              constructor
                              · rfl
                              · rfl
                            refine hK.out _ _ trivial (fun hHeld => ?_)
                            clear hK K
                            refine norm_ (a' := ?_) ?_ ?_
                            rotate_left
                            · show Act.put _ (some 61) _ = _
                              simp only [Act.put, List.setIfInBounds_toArray, List.set_cons_zero, List.set_cons_succ, i64_w, i32_w]
                              rfl
                            exact norm_ (by first | (simp only [putAll, Act.put, List.setIfInBounds_toArray, List.set_cons_zero, List.set_cons_succ]; done) | (simp only [putAll, Act.put, List.setIfInBounds_toArray, List.set_cons_zero, List.set_cons_succ]; rfl)) (hJ1_2_6_11_17 (g1_, g6_, g11_, wq.heap.size) _ ⟨(below_alloc hb_ _), (Kd.C_alloc h6_ _), (Kd.C_alloc h11_ _), (C_row1 _ wq.heap.size A2 c2 y2 _ 22 (0, 0) (heap_alloc_new wq _) (by rw [n2]) (Kd.C_alloc (Kd.C_below K3 hb_) _) hcap3)⟩)
                      · skip
                        rintro ⟨g1_, g6_⟩ wq hb_
                        have hHeld := trivial
                        refine norm_ (a' := ?_) ?_ ?_
                        rotate_left
                        · simp only [putAll, Act.put, List.setIfInBounds_toArray, List.set_cons_zero, List.set_cons_succ]
                          rfl
                        refine two_ (i := 11) (j := 17) (Ni := some 55) (Nj := some 61) #[true, true, true, true, true, true, true, true, true, true, true, true, false, false, true, true, true, false, false, false, false, false, false, false, false] #[true, true, true, true, true, true, true, true, true, true, true, false, false, false, true, true, true, true, false, false, false, false, false, false, false] rfl rfl rfl rfl (by kernel_rfl) (by decide) (by decide) (fun K hK => ?_) (fun K hK => ?_)
                        · skip
                          refine value_ (w1 := ?_) (v := ?_) (by rfl) rfl ?_ ?_
                          rotate_left 2
                          · go_simp
                            constructor
                            · rfl
                            · rfl
                          refine hK.out _ _ trivial (fun hHeld => ?_)
                          clear hK K
                          refine norm_ (a' := ?_) ?_ ?_
                          rotate_left
                          · show Act.put _ (some 55) _ = _
                            simp only [Act.put, List.setIfInBounds_toArray, List.set_cons_zero, List.set_cons_succ, i64_w, i32_w]
                            rfl
                          exact norm_ (by first | (simp only [putAll, Act.put, List.setIfInBounds_toArray, List.set_cons_zero, List.set_cons_succ]; done) | (simp only [putAll, Act.put, List.setIfInBounds_toArray, List.set_cons_zero, List.set_cons_succ]; rfl)) (hJ1_2_6_7_11 (g1_, g6_, wq.heap.size) _ ⟨(below_alloc hb_ _), (C_row1 _ wq.heap.size A1 c1 y1 _ 22 (0, 0) (heap_alloc_new wq _) (by rw [n1]) (Kd.C_alloc (Kd.C_below K2 hb_) _) hcap2)⟩)
                        · skip
                          refine value_ (w1 := ?_) (v := ?_) (by rfl) rfl ?_ ?_
                          rotate_left 2
                          · go_simp
                            constructor
                            · rfl
                            · rfl
                          refine hK.out _ _ trivial (fun hHeld => ?_)
                          clear hK K
                          refine norm_ (a' := ?_) ?_ ?_
                          rotate_left
                          · show Act.put _ (some 61) _ = _
                            simp only [Act.put, List.setIfInBounds_toArray, List.set_cons_zero, List.set_cons_succ, i64_w, i32_w]
                            rfl
                          exact norm_ (by first | (simp only [putAll, Act.put, List.setIfInBounds_toArray, List.set_cons_zero, List.set_cons_succ]; done) | (simp only [putAll, Act.put, List.setIfInBounds_toArray, List.set_cons_zero, List.set_cons_succ]; rfl)) (hJ1_2_6_7_17 (g1_, g6_, wq.heap.size) _ ⟨(below_alloc hb_ _), (C_row1 _ wq.heap.size A2 c2 y2 _ 22 (0, 0) (heap_alloc_new wq _) (by rw [n2]) (Kd.C_alloc (Kd.C_below K3 hb_) _) hcap3)⟩)
                    · skip
                      rintro ⟨g1_, g6_, g11_, g17_⟩ wq ⟨hb_, h6_, h11_, h17_⟩
                      have hHeld := trivial
                      refine norm_ (a' := ?_) ?_ ?_
                      rotate_left
                      · simp only [putAll, Act.put, List.setIfInBounds_toArray, List.set_cons_zero, List.set_cons_succ]
                        rfl
                      refine one_ (i := 7) (N := some 51) #[true, true, true, true, true, true, true, true, true, true, true, true, false, false, true, true, true, true, false, false, false, false, false, false, false] rfl rfl (by kernel_rfl) (by decide) (fun K hK => ?_)
                      refine goes_ Try.func12 (by kernel_rfl) rfl #[.slice (some ⟨g6_, 0, none⟩) 1 1] (by rfl) rfl rfl (by simp only [List.map_toArray, List.map_cons, List.map_nil]; rfl) ?_
                      with_reducible refine (of_one g6_ y0 T1 _ h6_ hT1).mono ?_
                      rintro e w3 ⟨rfl, hb2_⟩
                      refine ⟨_, rfl, ?_⟩
                      refine hK.out _ _ trivial (fun hHeld => ?_)
                      clear hK K
                      refine norm_ (a' := ?_) ?_ ?_
                      rotate_left
                      · show Act.put _ (some 51) _ = _
                        simp only [Act.put, List.setIfInBounds_toArray, List.set_cons_zero, List.set_cons_succ, i64_w, i32_w]
                        rfl
                      exact norm_ (by first | (simp only [putAll, Act.put, List.setIfInBounds_toArray, List.set_cons_zero, List.set_cons_succ]; done) | (simp only [putAll, Act.put, List.setIfInBounds_toArray, List.set_cons_zero, List.set_cons_succ]; rfl)) (hJ1_2_6_7_11_17 (g1_, g6_, g11_, g17_) _ ⟨(below_step hb_ hb2_), (Kd.C_below h11_ hb2_), (Kd.C_below h17_ hb2_)⟩)
                  · skip
                    rintro ⟨g1_, g6_, g17_⟩ wq ⟨hb_, h17_⟩
                    have hHeld := trivial
                    refine norm_ (a' := ?_) ?_ ?_
                    rotate_left
                    · simp only [putAll, Act.put, List.setIfInBounds_toArray, List.set_cons_zero, List.set_cons_succ]
                      rfl
                    refine one_ (i := 11) (N := some 55) #[true, true, true, true, true, true, true, true, true, true, true, true, false, false, true, true, true, true, false, false, false, false, false, false, false] rfl rfl (by kernel_rfl) (by decide) (fun K hK => ?_)
                    refine value_ (w1 := ?_) (v := ?_) (by rfl) rfl ?_ ?_
                    rotate_left 2
                    · go_simp
                      constructor
                      · rfl
                      · rfl
                    refine hK.out _ _ trivial (fun hHeld => ?_)
                    clear hK K
                    refine norm_ (a' := ?_) ?_ ?_
                    rotate_left
                    · show Act.put _ (some 55) _ = _
                      simp only [Act.put, List.setIfInBounds_toArray, List.set_cons_zero, List.set_cons_succ, i64_w, i32_w]
                      rfl
                    exact norm_ (by first | (simp only [putAll, Act.put, List.setIfInBounds_toArray, List.set_cons_zero, List.set_cons_succ]; done) | (simp only [putAll, Act.put, List.setIfInBounds_toArray, List.set_cons_zero, List.set_cons_succ]; rfl)) (hJ1_2_6_7_11_17 (g1_, g6_, wq.heap.size, g17_) _ ⟨(below_alloc hb_ _), (C_row1 _ wq.heap.size A1 c1 y1 _ 22 (0, 0) (heap_alloc_new wq _) (by rw [n1]) (Kd.C_alloc (Kd.C_below K2 hb_) _) hcap2), (Kd.C_alloc h17_ _)⟩)
                · skip
                  rintro ⟨g1_, g6_, g11_⟩ wq ⟨hb_, h11_⟩
                  have hHeld := trivial
                  refine norm_ (a' := ?_) ?_ ?_
                  rotate_left
                  · simp only [putAll, Act.put, List.setIfInBounds_toArray, List.set_cons_zero, List.set_cons_succ]
                    rfl
                  refine two_ (i := 12) (j := 17) (Ni := some 56) (Nj := some 61) #[true, true, true, true, true, true, true, true, true, true, true, true, true, false, true, true, true, false, false, false, false, false, false, false, false] #[true, true, true, true, true, true, true, true, true, true, true, true, false, false, true, true, true, true, false, false, false, false, false, false, false] rfl rfl rfl rfl (by kernel_rfl) (by decide) (by decide) (fun K hK => ?_) (fun K hK => ?_)
                  · skip
                    refine goes_ Try.func12 (by kernel_rfl) rfl #[.slice (some ⟨g11_, 0, none⟩) 1 1] (by rfl) rfl rfl (by simp only [List.map_toArray, List.map_cons, List.map_nil]; rfl) ?_
                    with_reducible refine (of_one g11_ y1 T2 _ h11_ hT2).mono ?_
                    rintro e w3 ⟨rfl, hb2_⟩
                    refine ⟨_, rfl, ?_⟩
                    refine hK.out _ _ trivial (fun hHeld => ?_)
                    clear hK K
                    refine norm_ (a' := ?_) ?_ ?_
                    rotate_left
                    · show Act.put _ (some 56) _ = _
                      simp only [Act.put, List.setIfInBounds_toArray, List.set_cons_zero, List.set_cons_succ, i64_w, i32_w]
                      rfl
                    refine pure_ (i := 13) (N := some 57) (v := ?_) (a' := ?_) #[true, true, true, true, true, true, true, true, true, true, true, true, true, true, true, true, true, false, false, false, false, false, false, false, false] rfl rfl (by kernel_rfl) (fun _ _ _ h => h) (Or.inl ⟨by rfl, ?_⟩) ?_ ?_
                    rotate_left
                    · intro w'
                      go_simp
                      with_reducible rfl
                    rotate_left
                    · simp only [Act.put, List.setIfInBounds_toArray, List.set_cons_zero, List.set_cons_succ, i64_w, i32_w]
                      rfl
                    exact norm_ (by first | (simp only [putAll, Act.put, List.setIfInBounds_toArray, List.set_cons_zero, List.set_cons_succ]; done) | (simp only [putAll, Act.put, List.setIfInBounds_toArray, List.set_cons_zero, List.set_cons_succ]; rfl)) (hJ1_2_6_7_11_12 (g1_, g6_, g11_) _ (below_step hb_ hb2_))
                  · skip
                    refine value_ (w1 := ?_) (v := ?_) (by rfl) rfl ?_ ?_
                    rotate_left 2
                    · go_simp
                      constructor
                      · rfl
                      · rfl
                    refine hK.out _ _ trivial (fun hHeld => ?_)
                    clear hK K
                    refine norm_ (a' := ?_) ?_ ?_
                    rotate_left
                    · show Act.put _ (some 61) _ = _
                      simp only [Act.put, List.setIfInBounds_toArray, List.set_cons_zero, List.set_cons_succ, i64_w, i32_w]
                      rfl
                    exact norm_ (by first | (simp only [putAll, Act.put, List.setIfInBounds_toArray, List.set_cons_zero, List.set_cons_succ]; done) | (simp only [putAll, Act.put, List.setIfInBounds_toArray, List.set_cons_zero, List.set_cons_succ]; rfl)) (hJ1_2_6_7_11_17 (g1_, g6_, g11_, wq.heap.size) _ ⟨(below_alloc hb_ _), (Kd.C_alloc h11_ _), (C_row1 _ wq.heap.size A2 c2 y2 _ 22 (0, 0) (heap_alloc_new wq _) (by rw [n2]) (Kd.C_alloc (Kd.C_below K3 hb_) _) hcap3)⟩)
              · skip
                rintro ⟨g1_, g6_, g11_, g17_⟩ wq ⟨hb_, h11_, h17_⟩
                have hHeld := trivial
                refine norm_ (a' := ?_) ?_ ?_
                rotate_left
                · simp only [putAll, Act.put, List.setIfInBounds_toArray, List.set_cons_zero, List.set_cons_succ]
                  rfl
                refine one_ (i := 12) (N := some 56) #[true, true, true, true, true, true, true, true, true, true, true, true, true, false, true, true, true, true, false, false, false, false, false, false, false] rfl rfl (by kernel_rfl) (by decide) (fun K hK => ?_)
                refine goes_ Try.func12 (by kernel_rfl) rfl #[.slice (some ⟨g11_, 0, none⟩) 1 1] (by rfl) rfl rfl (by simp only [List.map_toArray, List.map_cons, List.map_nil]; rfl) ?_
                with_reducible refine (of_one g11_ y1 T2 _ h11_ hT2).mono ?_
                rintro e w3 ⟨rfl, hb2_⟩
                refine ⟨_, rfl, ?_⟩
                refine hK.out _ _ trivial (fun hHeld => ?_)
                clear hK K
                refine norm_ (a' := ?_) ?_ ?_
                rotate_left
                · show Act.put _ (some 56) _ = _
                  simp only [Act.put, List.setIfInBounds_toArray, List.set_cons_zero, List.set_cons_succ, i64_w, i32_w]
                  rfl
                refine pure_ (i := 13) (N := some 57) (v := ?_) (a' := ?_) #[true, true, true, true, true, true, true, true, true, true, true, true, true, true, true, true, true, true, false, false, false, false, false, false, false] rfl rfl (by kernel_rfl) (fun _ _ _ h => h) (Or.inl ⟨by rfl, ?_⟩) ?_ ?_
                rotate_left
                · intro w'
                  go_simp
                  with_reducible rfl
                rotate_left
                · simp only [Act.put, List.setIfInBounds_toArray, List.set_cons_zero, List.set_cons_succ, i64_w, i32_w]
                  rfl
                exact norm_ (by first | (simp only [putAll, Act.put, List.setIfInBounds_toArray, List.set_cons_zero, List.set_cons_succ]; done) | (simp only [putAll, Act.put, List.setIfInBounds_toArray, List.set_cons_zero, List.set_cons_succ]; rfl)) (hJ1_2_6_7_11_12_17 (g1_, g6_, g11_, g17_) _ ⟨(below_step hb_ hb2_), (Kd.C_below h17_ hb2_)⟩)
            · skip
              rintro ⟨g1_, g6_, g11_⟩ wq hb_
              have hHeld := trivial
              refine norm_ (a' := ?_) ?_ ?_
              rotate_left
              · simp only [putAll, Act.put, List.setIfInBounds_toArray, List.set_cons_zero, List.set_cons_succ]
                rfl
              refine one_ (i := 17) (N := some 61) #[true, true, true, true, true, true, true, true, true, true, true, true, true, true, true, true, true, true, false, false, false, false, false, false, false] rfl rfl (by kernel_rfl) (by decide) (fun K hK => ?_)
              refine value_ (w1 := ?_) (v := ?_) (by rfl) rfl ?_ ?_
              rotate_left 2
              · go_simp
                constructor
                · rfl
                · rfl
              refine hK.out _ _ trivial (fun hHeld => ?_)
              clear hK K
              refine norm_ (a' := ?_) ?_ ?_
              rotate_left
              · show Act.put _ (some 61) _ = _
                simp only [Act.put, List.setIfInBounds_toArray, List.set_cons_zero, List.set_cons_succ, i64_w, i32_w]
                rfl
              exact norm_ (by first | (simp only [putAll, Act.put, List.setIfInBounds_toArray, List.set_cons_zero, List.set_cons_succ]; done) | (simp only [putAll, Act.put, List.setIfInBounds_toArray, List.set_cons_zero, List.set_cons_succ]; rfl)) (hJ1_2_6_7_11_12_17 (g1_, g6_, g11_, wq.heap.size) _ ⟨(below_alloc hb_ _), (C_row1 _ wq.heap.size A2 c2 y2 _ 22 (0, 0) (heap_alloc_new wq _) (by rw [n2]) (Kd.C_alloc (Kd.C_below K3 hb_) _) hcap3)⟩)
          · skip
            rintro ⟨g1_, g6_, g11_, g17_⟩ wq ⟨hb_, h17_⟩
            have hHeld := trivial
            refine norm_ (a' := ?_) ?_ ?_
            rotate_left
            · simp only [putAll, Act.put, List.setIfInBounds_toArray, List.set_cons_zero, List.set_cons_succ]
              rfl
            refine one_ (i := 18) (N := some 62) #[true, true, true, true, true, true, true, true, true, true, true, true, true, true, true, true, true, true, true, false, false, false, false, false, false] rfl rfl (by kernel_rfl) (by decide) (fun K hK => ?_)
            refine goes_ Try.func12 (by kernel_rfl) rfl #[.slice (some ⟨g17_, 0, none⟩) 1 1] (by rfl) rfl rfl (by simp only [List.map_toArray, List.map_cons, List.map_nil]; rfl) ?_
            with_reducible refine (of_one g17_ y2 T3 _ h17_ hT3).mono ?_
            rintro e w3 ⟨rfl, hb2_⟩
            refine ⟨_, rfl, ?_⟩
            refine hK.out _ _ trivial (fun hHeld => ?_)
            clear hK K
            refine norm_ (a' := ?_) ?_ ?_
            rotate_left
            · show Act.put _ (some 62) _ = _
              simp only [Act.put, List.setIfInBounds_toArray, List.set_cons_zero, List.set_cons_succ, i64_w, i32_w]
              rfl
            exact norm_ (by first | (simp only [putAll, Act.put, List.setIfInBounds_toArray, List.set_cons_zero, List.set_cons_succ]; done) | (simp only [putAll, Act.put, List.setIfInBounds_toArray, List.set_cons_zero, List.set_cons_succ]; rfl)) (hJ1_2_6_7_11_12_17_18 (g1_, g6_, g11_, g17_) _ (below_step hb_ hb2_))
        rintro ⟨g1_, g6_, g11_, g17_⟩ wq hb_
        have hHeld := trivial
        refine norm_ (a' := ?_) ?_ ?_
        rotate_left
        · simp only [putAll, Act.put, List.setIfInBounds_toArray, List.set_cons_zero, List.set_cons_succ]
          rfl
        refine pure_ (i := 19) (N := some 63) (v := ?_) (a' := ?_) #[true, true, true, true, true, true, true, true, true, true, true, true, true, true, true, true, true, true, true, true, false, false, false, false, false] rfl rfl (by kernel_rfl) (fun _ _ _ h => h) (Or.inl ⟨by rfl, ?_⟩) ?_ ?_
        rotate_left
        · intro w'
          go_simp
          with_reducible rfl
        rotate_left
        · simp only [Act.put, List.setIfInBounds_toArray, List.set_cons_zero, List.set_cons_succ, i64_w, i32_w]
          rfl
        refine pure_ (i := 20) (N := some 64) (v := ?_) (a' := ?_) #[true, true, true, true, true, true, true, true, true, true, true, true, true, true, true, true, true, true, true, true, true, false, false, false, false] rfl rfl (by kernel_rfl) (fun _ _ _ h => h) (Or.inl ⟨by rfl, ?_⟩) ?_ ?_
        rotate_left
        · intro w'
          go_simp
          with_reducible rfl
        rotate_left
        · simp only [Act.put, List.setIfInBounds_toArray, List.set_cons_zero, List.set_cons_succ, i64_w, i32_w]
          rfl
        refine pure_ (i := 21) (N := some 65) (v := ?_) (a' := ?_) #[true, true, true, true, true, true, true, true, true, true, true, true, true, true, true, true, true, true, true, true, true, true, false, false, false] rfl rfl (by kernel_rfl) (fun _ _ _ h => h) (Or.inl ⟨by rfl, ?_⟩) ?_ ?_
        rotate_left
        · intro w'
          go_simp
          with_reducible rfl
        rotate_left
        · simp only [Act.put, List.setIfInBounds_toArray, List.set_cons_zero, List.set_cons_succ, i64_w, i32_w]
          rfl
        refine one_ (i := 22) (N := some 66) #[true, true, true, true, true, true, true, true, true, true, true, true, true, true, true, true, true, true, true, true, true, true, true, false, false] rfl rfl (by kernel_rfl) (by decide) (fun K hK => ?_)
        refine goes_ Try.func8 (by kernel_rfl) rfl #[] (by rfl) rfl rfl (by first | rfl | (simp only [List.map_toArray, List.map_cons, List.map_nil]; done)) ?_
        with_reducible refine (known_calls _).mono ?_
        rintro e w4 ⟨rfl, hb4_⟩
        refine ⟨_, rfl, ?_⟩
        refine hK.out _ _ trivial (fun hHeld => ?_)
        clear hK K
        refine norm_ (a' := ?_) ?_ ?_
        rotate_left
        · show Act.put _ (some 66) _ = _
          simp only [Act.put, List.setIfInBounds_toArray, List.set_cons_zero, List.set_cons_succ, i64_w, i32_w]
          rfl
        refine pure_ (i := 23) (N := some 67) (v := ?_) (a' := ?_) #[true, true, true, true, true, true, true, true, true, true, true, true, true, true, true, true, true, true, true, true, true, true, true, true, false] rfl rfl (by kernel_rfl) (fun _ _ _ h => h) (Or.inl ⟨by rfl, ?_⟩) ?_ ?_
        rotate_left
        · intro w'
          go_simp
          with_reducible rfl
        rotate_left
        · simp only [Act.put, List.setIfInBounds_toArray, List.set_cons_zero, List.set_cons_succ, i64_w, i32_w]
          rfl
        refine pure_ (i := 24) (N := some 6) (v := ?_) (a' := ?_) #[true, true, true, true, true, true, true, true, true, true, true, true, true, true, true, true, true, true, true, true, true, true, true, true, true] rfl rfl (by kernel_rfl) (fun _ _ _ h => h) (Or.inl ⟨by rfl, ?_⟩) ?_ ?_
        rotate_left
        · intro w'
          go_simp
          with_reducible rfl
        rotate_left
        · simp only [Act.put, List.setIfInBounds_toArray, List.set_cons_zero, List.set_cons_succ, i64_w, i32_w]
          rfl
        refine done_ (by kernel_rfl) ?_
        
        --END9
        go_wp2
        go_ret
        exact ⟨rfl, below_step (below_step hbk hb_) hb4_⟩
end Go.Proofs.Yteiimfmanfafhaa.C
