/- No more is held than was taken; nothing of a head; at the end the sections' bytes: the walk over the law. No condition. Written for this claim by a program of this session (a turned copy of the print): Go functions as Lean functions, and that the Go code comes to just these answers; or a statement proved out of them. No condition. -/
import Derived.Test.YtglmfnaofpbpfaaZ20
import Derived.Test.YtglmfnaofpbpfaaZ2

namespace Go.Proofs.Ytglmfnaofpbpfaa.Hf
set_option linter.unusedVariables false
set_option linter.unusedSimpArgs false
open Go Go.RowKit Go.Proofs.Ytglmfnaofpbpfaa.P Go.Proofs.Ytglmfnaofpbpfaa.C Go.Proofs.Ytglmfnaofpbpfaa.Fv Go.Proofs.YtglmfnaofpbpfaaW.PrintWords Go.Proofs.YtglmfnaofpbpfaaW.PrintLast Go.Proofs.YtglmfnaofpbpfaaW.PrintMore

theorem head_bytes (A : Option Addr) (c : Nat) (xs : List Int) (k : Nat) (h : k ≤ xs.length) (hc : xs.length ≤ c) :
    (∀ W : World, (Instr.slice 22 (.slice A xs.length c) none (some (.int .i64 (k : Int))) none).run Try.prog W = .ok (.slice A k c) W) ∧
      (∀ w : World, Kd.C (Kd.int .u8) w A xs.length xs → Kd.C (Kd.int .u8) w A k (xs.take k)) ∧ k ≤ c := by
  obtain ⟨i0, hi, _, hsz, _⟩ := info_parts info5
  obtain ⟨g1, g2, g3⟩ := print_take_of (P := Try.prog) (Value.int .u8) 0 22 5 .i64 Try.underlying22 hi hsz A c xs (k : Int) (by omega) (by omega) hc
  simp only [Int.toNat_natCast] at g1 g2 g3
  have e : (xs.take k).length = k := by rw [List.length_take]; omega
  rw [e] at g1 g2 g3
  exact ⟨g1, fun w h => by
    have := Kd.C_of_reads (d := 0) (h1 := fun _ => rfl) (g2 _ (Kd.reads_of_C h))
    exact this, g3⟩
theorem rest_bytes (A : Option Addr) (c : Nat) (xs : List Int) (k : Nat) (h : k ≤ xs.length) (hc : xs.length ≤ c) :
    ∃ A' : Option Addr, (∀ W : World, (Instr.slice 22 (.slice A xs.length c) (some (.int .i64 (k : Int))) none none).run Try.prog W = .ok (.slice A' (xs.length - k) (c - k)) W) ∧
      (∀ w : World, Kd.C (Kd.int .u8) w A xs.length xs → Kd.C (Kd.int .u8) w A' (xs.length - k) (xs.drop k)) ∧ xs.length - k ≤ c - k := by
  obtain ⟨i0, hi, _, hsz, _⟩ := info_parts info5
  obtain ⟨A', g1, g2, g3⟩ := print_drop_of (P := Try.prog) (Value.int .u8) 0 22 5 .i64 Try.underlying22 hi hsz A c xs (k : Int) (by omega) (by omega) hc
  simp only [Int.toNat_natCast, List.length_drop] at g1 g2 g3
  exact ⟨A', g1, fun w h => by
    have := Kd.C_of_reads (d := 0) (h1 := fun _ => rfl) (g2 _ (Kd.reads_of_C h))
    exact this, g3⟩
set_option maxHeartbeats 8000000 in
set_option maxRecDepth 100000 in
theorem holds_calls (A0 : Option Addr) (c0 : Nat) (l0 : List Sec) (a1 : Int) (w : World) (hr0 : Kd.C k48 w A0 l0.length l0) (hc0 : l0.length ≤ c0) (hb : ∀ s ∈ l0, ∀ c ∈ s.f1, 0 ≤ c ∧ c ≤ 255) (hw : ∀ s ∈ l0, s.f1.length ≤ 1048576) (hlen : l0.length ≤ 1048576) (ha : 0 ≤ a1 ∧ a1 ≤ 65535) :
    Calls Try.prog 6 #[.slice A0 l0.length c0, .int .u16 a1] w fun e w' => e = .returned (.bool true) ∧ Below w.heap.size w w' := by
  have hkn := known_calls
  obtain ⟨⟨x, r2⟩, ⟨K, hK⟩, hlaw⟩ := enc_law l0 hb hw hlen
  have hK := hK K (Nat.le_refl _)
  have henc := frame_Encode.calls K A0 c0 l0 x r2 w hr0 hc0 hK
  simp only at hlaw
  clear hK
  by_cases hr2 : r2 = 0
  · subst hr2
    have hlaw := hlaw rfl
    by_cases hx : (x.length : Int) > 1500
    · clear hlaw
      go_enter Try.func6, Try.ntmps6
      go_upto_region 2 with (first | (go_at_call 19; refine henc.mono ?_; rintro e w1 ⟨v1, rfl, ho1, hb1⟩) | go_step3)
      obtain ⟨A1, c1, e1⟩ := Kd.R_slice ho1
      subst e1
      go_wp2_with (first | (go_at_call 7; refine (hkn _).mono ?_; rintro e w2 ⟨rfl, hb2⟩) | go_step3)
      go_ret
      exact ⟨rfl, below_step hb1 hb2⟩
    · obtain ⟨hxe, hok, hwf⟩ := hlaw (by omega)
      have hall := whole_held l0 hok hwf
      have hbw := encB_bytes l0 hok hwf
      rw [← hxe] at hall hbw
      clear hxe
      have hnew := new_calls
      go_enter Try.func6, Try.ntmps6
      go_upto_region 2 with (first | (go_at_call 19; refine henc.mono ?_; rintro e w1 ⟨v1, rfl, ho1, hb1⟩) | go_step3)
      obtain ⟨A1, c1, e1⟩ := Kd.R_slice ho1
      subst e1
      have hrd := Kd.R_reads' ho1
      clear ho1 henc
      go_upto_region 8 with (first | (go_at_call 8; refine (hnew _).mono ?_; rintro e w2 ⟨rfl, hF2, hb2⟩) | go_step3)
      have hm0 : 0 ≤ a1 % ((x.length : Int) + 1) := Int.emod_nonneg _ (by omega)
      have hm1 : a1 % ((x.length : Int) + 1) < (x.length : Int) + 1 := Int.emod_lt_of_pos _ (by omega)
      generalize a1 % ((x.length : Int) + 1) = kk at *
      obtain ⟨k, rfl⟩ := Int.eq_ofNat_of_zero_le hm0
      have hkl : k ≤ x.length := by omega
      have hx15 : x.length ≤ 1500 := by omega
      clear hm0 hm1
      have hxW : ∀ W : World, (∀ j, j < w1.heap.size → W.heap[j]? = w1.heap[j]?) → Kd.C (Kd.int .u8) W A1 x.length x := fun W h => Kd.C_F (Kd.heap_int .u8) hrd.2.2 W (fun j hj _ => h j hj)
      obtain ⟨hcut, hC1, hk1⟩ := head_bytes A1 c1 x k hkl hrd.2.1
      obtain ⟨A3, hcut3, hC3, hk3⟩ := rest_bytes A1 c1 x k hkl hrd.2.1
      have hwp : ∀ c ∈ x.take k, 0 ≤ c ∧ c ≤ 255 := fun c hc => hbw c (List.mem_of_mem_take hc)
      have hwd : ∀ c ∈ x.drop k, 0 ≤ c ∧ c ≤ 255 := fun c hc => hbw c (List.mem_of_mem_drop hc)
      have hlt : (x.take k).length = k := by rw [List.length_take]; omega
      have hrun : x.foldl fstep fs0 = (x.drop k).foldl fstep ((x.take k).foldl fstep fs0) := by rw [← List.foldl_append, List.take_append_drop]
      have hgood := good_pre x fs0 hall.1
      have hall2 := hall
      rw [hrun] at hall2
      have hgp := good_pre (x.drop k) ((x.take k).foldl fstep fs0) hall2.1
      have hgq := good_pre (x.take k) fs0 hgp.1
      have h0 : fs0.taken = 0 := rfl
      rw [hlt, h0, Nat.zero_add] at hgq
      rw [h0, Nat.zero_add] at hgood
      have hhd := held_run (x.take k) fs0 held0
      rw [hgq.2] at hhd
      have hhead : k ≤ 5 → heldF ((x.take k).foldl fstep fs0) = 0 := fun h => by
        obtain ⟨q1, q2⟩ := head_none (x.take k) fs0 ⟨rfl, rfl⟩ (by rw [h0, hlt, Nat.zero_add]; exact h)
        unfold heldF
        rw [q1, q2]
        rfl
      have hok1 := (okF_run (x.take k) fs0 okF0 hwp).1
      have hok2 := okF_run x fs0 okF0 hbw
      have hfeed := feed1 w1 w2 w1.heap.size fs0 (fun j => j = w1.heap.size) (x.take k) A1 c1 hb2 hF2 okF0 (fun W hW => by
        rw [hlt]
        exact hC1 W (hxW W (fun j hj => (hW.2 j (Nat.lt_of_lt_of_le hj hb2.size) (by omega)).trans (hb2.block j hj)))) (by omega) hwp (by omega)
      rw [hgp.1, hlt] at hfeed
      have hgs := Fd_lt hF2
      have hs2 := hb2.size
      clear hC1 hbw hwp hF2 hlt hall
      have HGQ := Aside0.mk hgq.2
      have HGD := Aside0.mk hgood.2
      have HRUN := Aside0.mk hrun
      have HALL := Aside0.mk hall2
      have hs1t : ((x.take k).foldl fstep fs0).taken ≤ 1500 := by rw [hgq.2]; omega
      have hokL := hok2.1.2.2.1
      have hfin := held_run x fs0 held0
      rw [hgood.2] at hfin hokL
      have hfin2 : heldF ((x.drop k).foldl fstep ((x.take k).foldl fstep fs0)) ≤ x.length ∧ ((x.drop k).foldl fstep ((x.take k).foldl fstep fs0)).L.length ≤ x.length := by rw [← hrun]; exact ⟨hfin, hokL⟩
      have hok1L := hok1.2.2.1
      clear hgood hgq hgp hrun hall2 hok2 hfin hokL h0
      generalize (x.take k).foldl fstep fs0 = s1 at *
      go_upto_region 9 with (first | (go_at_call 10; refine hfeed.mono ?_; rintro e w4 ⟨rfl, hF4, hB4, hK4⟩) | go_step3)
      clear hfeed hcut
      have htk : ∀ W, Below w4.heap.size w4 W → Calls Try.prog 12 #[.pointer (some ⟨w1.heap.size, 0, none⟩)] W fun e w' => e = .returned (.int .i64 (k : Int)) ∧ w' = W := fun W h => by
        have := taken_calls _ _ _ W _ (Fd_below hF4 h)
        rw [HGQ.out] at this
        exact this
      have hhl : ∀ W, Below w4.heap.size w4 W → _ := fun W h => held_calls _ _ _ W _ (Fd_below hF4 h) (by omega) (by omega)
      generalize heldF s1 = hh at *
      have hend : ∀ (w6 : World), Below w4.heap.size w4 w6 → True := fun _ _ => trivial
      by_cases hk5 : k ≤ 5
      · have hh0 : hh = 0 := hhead hk5
        subst hh0
        clear hhead
        have hk5i : (k : Int) ≤ 5 := by omega
        go_upto_region 11 with (first | (go_at_call 12; refine (htk _ (Below.refl _ _)).mono ?_; rintro e w5 ⟨rfl, rfl⟩) | ((have t_ := tag; go_at_call 13; refine (hhl _ hb5).mono ?_; rintro e w6 ⟨rfl, hb6⟩)) | (go_at_call 13; refine (hhl _ (Below.refl _ _)).mono ?_; rintro e w5 ⟨rfl, hb5⟩; have tag := True.intro) | go_step3)
        have hbb := below_step hb5 hb6
        have hF6 := Fd_below hF4 hbb
        have hB6 := below_step hB4 hbb
        have hb6s := hB6.size
        have hfeed := feed1 w1 _ w1.heap.size s1 _ (x.drop k) A3 (c1 - k) hB6 hF6 hok1 (fun W hW => by rw [List.length_drop]; exact hC3 W (hxW W (fun j hj => (hW.2 j (Nat.lt_of_lt_of_le hj hb6s) (by omega)).trans (hB6.block j hj)))) (by rw [List.length_drop]; exact hk3) hwd (by rw [List.length_drop]; omega)
        rw [HALL.out.1, List.length_drop] at hfeed
        have hen := HALL.out.2
        have hfin := hfin2
        have htn : ((x.drop k).foldl fstep s1).taken = x.length := by rw [← HRUN.out]; exact HGD.out
        clear hF6 hxW hC3 htk hhl hbb hfin2
        generalize (x.drop k).foldl fstep s1 = s2 at *
        go_upto_region 12 with (first | (go_at_call 10; refine hfeed.mono ?_; rintro e w7 ⟨rfl, hF7, hB7, hK7⟩) | go_step3)
        clear hfeed hcut3
        have hB7' := below_step hb1 hB7
        have hr7 := Kd.C_below hr0 hB7'
        have htk : ∀ W, Below w7.heap.size w7 W → Calls Try.prog 12 #[.pointer (some ⟨w1.heap.size, 0, none⟩)] W fun e w' => e = .returned (.int .i64 (x.length : Int)) ∧ w' = W := fun W h => by
          have := taken_calls _ _ _ W _ (Fd_below hF7 h)
          rw [htn] at this
          exact this
        have hhl := held_calls _ _ _ w7 _ hF7 (by omega) (by omega)
        rw [hen] at hhl
        have hsum : sumB l0 ≤ 1500 := by omega
        clear htn hen hfin hF7
        go_wp2_with (go_step3)
        go_loop [11, 12] (fun n v => ∃ i : Nat, i ≤ l0.length ∧ v = .int .i64 i ∧ n = .int .i64 (sumB (l0.take i) : Int)) (fun _ v => l0.length - (intV v).toNat)
        case atStart => exact ⟨0, by omega, rfl, rfl⟩
        case round =>
          obtain ⟨i, hi, rfl, rfl⟩ := hrel
          rcases Nat.lt_or_ge i l0.length with hlt | hge
          · have hii : (i : Int) < (l0.length : Int) := by omega
            have hib : decide ((i : Int) < (l0.length : Int)) = true := decide_eq_true hii
            obtain ⟨ad, A9, c9, eA, hx0, hx1, hc9, hK9⟩ := at_T48 hr7 (i : Int) (by omega) hii
            subst eA
            rw [rdS _ _ hlt] at hx0 hx1 hc9 hK9
            rw [Int.toNat_natCast] at hx0 hx1
            have hst := sumB_take l0 i hlt
            have hsl := sumB_le l0 (i + 1)
            have HST := Aside0.mk hst
            have hsb : sumB (l0.take i) + l0[i].f1.length ≤ 1500 := by omega
            clear hst hsl hK9
            generalize l0[i] = S at *
            generalize sumB (l0.take i) = q at *
            go_wp2_with (go_step3)
            go_round
            case rel => exact ⟨i + 1, by omega, rfl, by rw [HST.out]; rfl⟩
            case measure => simp [intV]; omega
          · have hii : ¬ (i : Int) < (l0.length : Int) := by omega
            have hib : decide ((i : Int) < (l0.length : Int)) = false := decide_eq_false hii
            rw [List.take_of_length_le hge]
            go_wp2_with (first | (go_at_call 13; refine hhl.mono ?_; rintro e w8 ⟨rfl, hb8⟩) | (go_at_call 12; refine (htk _ hb8).mono ?_; rintro e w9 ⟨rfl, rfl⟩) | (go_at_call 7; refine (hkn _).mono ?_; rintro e w10 ⟨rfl, hb10⟩) | go_step3)
            go_ret
            exact ⟨rfl, below_step (below_step hB7' hb8) hb10⟩
      · clear hhead
        have hk5i : ¬ (k : Int) ≤ 5 := by omega
        have hki : ¬ (hh : Int) > (k : Int) := by omega
        go_upto_region 11 with (first | (go_at_call 12; refine (htk _ (Below.refl _ _)).mono ?_; rintro e w5 ⟨rfl, rfl⟩) | (go_at_call 13; refine (hhl _ (Below.refl _ _)).mono ?_; rintro e w5 ⟨rfl, hb5⟩) | go_step3)
        have hbb := hb5
        have hF6 := Fd_below hF4 hbb
        have hB6 := below_step hB4 hbb
        have hb6s := hB6.size
        have hfeed := feed1 w1 _ w1.heap.size s1 _ (x.drop k) A3 (c1 - k) hB6 hF6 hok1 (fun W hW => by rw [List.length_drop]; exact hC3 W (hxW W (fun j hj => (hW.2 j (Nat.lt_of_lt_of_le hj hb6s) (by omega)).trans (hB6.block j hj)))) (by rw [List.length_drop]; exact hk3) hwd (by rw [List.length_drop]; omega)
        rw [HALL.out.1, List.length_drop] at hfeed
        have hen := HALL.out.2
        have hfin := hfin2
        have htn : ((x.drop k).foldl fstep s1).taken = x.length := by rw [← HRUN.out]; exact HGD.out
        clear hF6 hxW hC3 htk hhl hbb hfin2
        generalize (x.drop k).foldl fstep s1 = s2 at *
        go_upto_region 12 with (first | (go_at_call 10; refine hfeed.mono ?_; rintro e w7 ⟨rfl, hF7, hB7, hK7⟩) | go_step3)
        clear hfeed hcut3
        have hB7' := below_step hb1 hB7
        have hr7 := Kd.C_below hr0 hB7'
        have htk : ∀ W, Below w7.heap.size w7 W → Calls Try.prog 12 #[.pointer (some ⟨w1.heap.size, 0, none⟩)] W fun e w' => e = .returned (.int .i64 (x.length : Int)) ∧ w' = W := fun W h => by
          have := taken_calls _ _ _ W _ (Fd_below hF7 h)
          rw [htn] at this
          exact this
        have hhl := held_calls _ _ _ w7 _ hF7 (by omega) (by omega)
        rw [hen] at hhl
        have hsum : sumB l0 ≤ 1500 := by omega
        clear htn hen hfin hF7
        go_wp2_with (go_step3)
        go_loop [11, 12] (fun n v => ∃ i : Nat, i ≤ l0.length ∧ v = .int .i64 i ∧ n = .int .i64 (sumB (l0.take i) : Int)) (fun _ v => l0.length - (intV v).toNat)
        case atStart => exact ⟨0, by omega, rfl, rfl⟩
        case round =>
          obtain ⟨i, hi, rfl, rfl⟩ := hrel
          rcases Nat.lt_or_ge i l0.length with hlt | hge
          · have hii : (i : Int) < (l0.length : Int) := by omega
            have hib : decide ((i : Int) < (l0.length : Int)) = true := decide_eq_true hii
            obtain ⟨ad, A9, c9, eA, hx0, hx1, hc9, hK9⟩ := at_T48 hr7 (i : Int) (by omega) hii
            subst eA
            rw [rdS _ _ hlt] at hx0 hx1 hc9 hK9
            rw [Int.toNat_natCast] at hx0 hx1
            have hst := sumB_take l0 i hlt
            have hsl := sumB_le l0 (i + 1)
            have HST := Aside0.mk hst
            have hsb : sumB (l0.take i) + l0[i].f1.length ≤ 1500 := by omega
            clear hst hsl hK9
            generalize l0[i] = S at *
            generalize sumB (l0.take i) = q at *
            go_wp2_with (go_step3)
            go_round
            case rel => exact ⟨i + 1, by omega, rfl, by rw [HST.out]; rfl⟩
            case measure => simp [intV]; omega
          · have hii : ¬ (i : Int) < (l0.length : Int) := by omega
            have hib : decide ((i : Int) < (l0.length : Int)) = false := decide_eq_false hii
            rw [List.take_of_length_le hge]
            go_wp2_with (first | (go_at_call 13; refine hhl.mono ?_; rintro e w8 ⟨rfl, hb8⟩) | (go_at_call 12; refine (htk _ hb8).mono ?_; rintro e w9 ⟨rfl, rfl⟩) | (go_at_call 7; refine (hkn _).mono ?_; rintro e w10 ⟨rfl, hb10⟩) | go_step3)
            go_ret
            exact ⟨rfl, below_step (below_step hB7' hb8) hb10⟩
  · have hr2b : (r2 != 0) = true := bne_iff_ne.mpr hr2
    clear hlaw
    go_enter Try.func6, Try.ntmps6
    go_upto_region 2 with (first | (go_at_call 19; refine henc.mono ?_; rintro e w1 ⟨v1, rfl, ho1, hb1⟩) | go_step3)
    obtain ⟨A1, c1, e1⟩ := Kd.R_slice ho1
    subst e1
    go_wp2_with (first | (go_at_call 7; refine (hkn _).mono ?_; rintro e w2 ⟨rfl, hb2⟩) | go_step3)
    go_ret
    exact ⟨rfl, below_step hb1 hb2⟩
end Go.Proofs.Ytglmfnaofpbpfaa.Hf

namespace Go.Proofs.Ytglmfnaofpbpfaa.P
open Go.RowKit Go.Proofs.YtglmfnaofpbpfaaW.PrintWords Go.Proofs.YtglmfnaofpbpfaaW.PrintLast Go.Proofs.YtglmfnaofpbpfaaW.PrintMore Go.Proofs.Ytglmfnaofpbpfaa.X
attribute [local go_sem] max2_int min2_int max_two min_two max_three min_three max_four min_four   -- for this text's walks alone
set_option linter.unusedVariables false
set_option linter.unusedSimpArgs false

/-! ### lapidarylaw04_FeedHolds: function 6 -/
def lapidarylaw04_FeedHolds.f (l0 : List (S48)) (a1 : Int) : Option (Bool) := if (∀ s ∈ l0, ∀ c ∈ s.f1, 0 ≤ c ∧ c ≤ 255) ∧ (∀ s ∈ l0, s.f1.length ≤ 1048576) ∧ l0.length ≤ 1048576 ∧ 0 ≤ a1 ∧ a1 ≤ 65535 then (some true) else (none)

set_option maxHeartbeats 8000000 in
set_option maxRecDepth 100000 in
theorem lapidarylaw04_FeedHolds.calls (A0 : Option Addr) (c0 : Nat) (l0 : List (S48)) (a1 : Int) (r : Bool) (w : World) (hr0 : Kd.C k48 w A0 l0.length l0) (hc0 : l0.length ≤ c0) (h : lapidarylaw04_FeedHolds.f l0 a1 = some r) :
  Calls Try.prog 6 #[.slice A0 l0.length c0, .int .u16 a1] w fun e w' => e = .returned (.bool r) ∧ Below w.heap.size w w' := by
 unfold lapidarylaw04_FeedHolds.f at h
 by_cases hl : (∀ s ∈ l0, ∀ c ∈ s.f1, 0 ≤ c ∧ c ≤ 255) ∧ (∀ s ∈ l0, s.f1.length ≤ 1048576) ∧ l0.length ≤ 1048576 ∧ 0 ≤ a1 ∧ a1 ≤ 65535
 ·rw [if_pos hl] at h
  obtain rfl := Option.some.inj h
  exact Hf.holds_calls A0 c0 l0 a1 w hr0 hc0 hl.1 hl.2.1 hl.2.2.1 hl.2.2.2
 ·rw [if_neg hl] at h; cases h

end Go.Proofs.Ytglmfnaofpbpfaa.P
