/- In whatever chunks bytes come, what is told at the end is what is told of them at once: the walk over the law. No condition. Written for this claim by a program of this session (a turned copy of the print): Go functions as Lean functions, and that the Go code comes to just these answers; or a statement proved out of them. No condition. The document's state in memory, chunk by chunk. No condition. -/
import Derived.Test.YtglmfnaofpbpfaaZ18
import Derived.Test.YtglmfnaofpbpfaaZ6
import Derived.Test.YtglmfnaofpbpfaaZ8
import Derived.Test.YtglmfnaofpbpfaaZ2
import Derived.Test.YtglmfnaofpbpfaaZ17

namespace Go.Proofs.Ytglmfnaofpbpfaa.Hf
set_option linter.unusedVariables false
set_option linter.unusedSimpArgs false
open Go Go.RowKit Go.Proofs.Ytglmfnaofpbpfaa.P Go.Proofs.Ytglmfnaofpbpfaa.C Go.Proofs.Ytglmfnaofpbpfaa.Fv Go.Proofs.YtglmfnaofpbpfaaW.PrintWords Go.Proofs.YtglmfnaofpbpfaaW.PrintLast Go.Proofs.YtglmfnaofpbpfaaW.PrintMore

theorem kept_mono {w W : World} {S S' : Nat → Prop} (h : Kept w W S) (hs : ∀ k, S k → S' k) : Kept w W S' := ⟨h.1, fun i hi hn => h.2 i hi (fun x => hn (hs i x))⟩
theorem kept_then {w w1 W : World} {S S1 S' : Nat → Prop} (h : Kept w w1 S) (h1 : Kept w1 W S1) (hs : ∀ k, S k → S' k) (hs1 : ∀ k, k < w.heap.size → S1 k → S' k) : Kept w W S' :=
  ⟨Nat.le_trans h.1 h1.1, fun i hi hn => (h1.2 i (Nat.lt_of_lt_of_le hi h.1) (fun x => hn (hs1 i hi x))).trans (h.2 i hi (fun x => hn (hs i x)))⟩
theorem Rows_kept {P P' S : Nat → Prop} {w wr : World} {A : Option Addr} {ls : List (List Int)} (h : Rows P w A ls) (hk : Kept w wr S) (hs : ∀ k, S k → P k) (hp : ∀ k, k < w.heap.size → P' k → P k) : Rows P' wr A ls := by
  intro i hi
  obtain ⟨ad, A1, c1, e, h1, h2⟩ := h i hi
  exact ⟨ad, A1, c1, e, h1, fun W hW => h2 W (kept_then hk hW hs hp)⟩
theorem kept_below {w W : World} (h : Below w.heap.size w W) (S : Nat → Prop) : Kept w W S := ⟨h.size, fun i hi _ => h.block i hi⟩
theorem Fd_lower {P : Nat → Prop} {base base' g : Nat} {w : World} {s : FS} (h : Fd P base g w s) (hb : base' ≤ base) : Fd P base' g w s := by
  obtain ⟨h0, h1, vt, vl, hg, hR, hN⟩ := h
  exact ⟨Nat.le_trans hb h0, h1, vt, vl, hg, Kd.R_lower hR hb, Kd.N_lower hN hb⟩

set_option maxHeartbeats 8000000 in
set_option maxRecDepth 100000 in
theorem whole_calls (A0 A1 : Option Addr) (c0 c1 : Nat) (l0 l1 : List Int) (w : World) (hr0 : Kd.C (Kd.int .u8) w A0 l0.length l0) (hc0 : l0.length ≤ c0) (hr1 : Kd.C (Kd.int .u8) w A1 l1.length l1) (hc1 : l1.length ≤ c1) (hw : ∀ c ∈ l0, 0 ≤ c ∧ c ≤ 255) (hw1 : ∀ c ∈ l1, 0 ≤ c ∧ c ≤ 255) :
    Calls Try.prog 4 #[.slice A0 l0.length c0, .slice A1 l1.length c1] w fun e w' => e = .returned (.bool true) ∧ Below w.heap.size w w' := by
  have hkn := known_calls
  by_cases hlen : (l0.length : Int) > 1200
  · go_enter Try.func4, Try.ntmps4
    go_wp2_with (go_at_call 7; refine (hkn _).mono ?_; rintro e w2 ⟨rfl, hb2⟩)
    go_ret
    exact ⟨rfl, hb2⟩
  by_cases hlen1 : (l1.length : Int) > 60
  · go_enter Try.func4, Try.ntmps4
    go_wp2_with (go_at_call 7; refine (hkn _).mono ?_; rintro e w2 ⟨rfl, hb2⟩)
    go_ret
    exact ⟨rfl, hb2⟩
  have hl12 : l0.length ≤ 1200 := by omega
  obtain ⟨K, hK⟩ := dec_ev l0 hw (by omega)
  have hdec := fun W h => frame_Decode.calls K A0 c0 l0 (decW l0).1 (decW l0).2 W h hc0 (hK K (Nat.le_refl _))
  obtain ⟨K1, hK1⟩ := cut_ev l0 l1 hw1 (by omega)
  have hK1 := hK1 K1 (Nat.le_refl _)
  have hflat := cut_flat l1 l0
  have hllen := cut_len l1 l0
  have hlwf := cut_wf l1 l0 hw
  clear hK
  generalize cutV l0 l1 = ls at *
  have hcut := fun W h h' => lapidaryref04_Cut.calls K1 (fun k => k < w.heap.size) A0 c0 l0 A1 c1 l1 ls W (Kd.V_mk hc0 (Kd.F_below (Kd.C_F (Kd.heap_int .u8) hr0) h)) (Kd.C_below hr1 h') hc1 hK1
  have hnew := new_calls w
  have HFLAT := Aside0.mk hflat
  have HLLEN := Aside0.mk hllen
  have hlsn : ls.length ≤ 61 := by omega
  clear hK1 hflat hllen
  go_enter Try.func4, Try.ntmps4
  go_upto_region 4 with (first | (go_at_call 8; refine hnew.mono ?_; rintro e w1 ⟨rfl, hF1, hb1⟩) | go_step3)
  have hnew2 := new_calls w1
  clear hnew
  have hne : w.heap.size < w1.heap.size := Fd_lt hF1
  go_upto_region 7 with (first | (go_at_call 8; refine hnew2.mono ?_; rintro e w2 ⟨rfl, hG2, hb2⟩) | go_step3)
  have hB2 := below_step hb1 hb2
  have hF2 := Fd_below hF1 hb2
  have hgg := Fd_lt hG2
  clear hnew2 hF1
  have hcut2 := hcut w2 hB2 hB2
  clear hcut
  go_upto_region 8 with (first | (go_at_call 9; refine hcut2.mono ?_; rintro e w5 ⟨v7, rfl, ho7, hb5⟩) | go_step3)
  obtain ⟨A7, c7, e7⟩ := Kd.N_slice ho7
  subst e7
  have hrows : Rows (fun k => k = w.heap.size ∨ k = w1.heap.size) w5 A7 ls := rows_N ho7 (fun k hk _ => by omega)
  have hB5 := below_step hB2 hb5
  have hF5 := Fd_below hF2 hb5
  have hG5 := Fd_lower (Fd_below hG2 hb5) (Nat.le_of_lt hne)
  have hs5 := hb5.size
  have hs2 := hb2.size
  clear ho7 hb1 hb2 hb5 hcut2 hB2 hF2 hG2
  go_wp2_with (go_step3)
  go_loopw [8] (fun v wr => ∃ i : Nat, i ≤ ls.length ∧ v = .int .i64 i ∧ Fd (fun k => k = w.heap.size ∨ w5.heap.size ≤ k) w.heap.size w.heap.size wr ((ls.take i).flatten.foldl fstep fs0) ∧ Fd (fun k => k = w1.heap.size) w.heap.size w1.heap.size wr fs0 ∧ Below w.heap.size w wr ∧ Kept w5 wr (fun k => k = w.heap.size)) (fun v _ => ls.length - (intV v).toNat)
  case atStart => exact ⟨0, by omega, rfl, Fd_mono hF5 (fun k hk => .inl hk), hG5, hB5, Kept.refl _ _⟩
  case round =>
    clear hF5 hG5 hB5
    obtain ⟨i, hi, rfl, hF, hG, hB, hK⟩ := hrel
    have hsr := hK.1
    rcases Nat.lt_or_ge i ls.length with hlt | hge
    · have hii : (i : Int) < (ls.length : Int) := by omega
      have hib : decide ((i : Int) < (ls.length : Int)) = true := decide_eq_true hii
      obtain ⟨ad, A8, c8, eA, hc8, hrow⟩ := hrows i hlt
      have hcell := (hrow wr (kept_mono hK (fun k hk => .inl hk))).1
      have hmem : ∀ x ∈ (ls.take i).flatten, 0 ≤ x ∧ x ≤ 255 := fun x hx => by
        obtain ⟨y, hy, hxy⟩ := List.mem_flatten.1 hx
        exact hlwf y (List.mem_of_mem_take hy) x hxy
      have hok := okF_run (ls.take i).flatten fs0 okF0 hmem
      have hfl : (ls.take i).flatten.length + ls[i].length ≤ l0.length := by
        have h1 := congrArg List.length (flat_at ls i hlt)
        rw [HFLAT.out] at h1
        simp only [List.length_append] at h1
        omega
      have h0 : fs0.taken = 0 := rfl
      have hfeed := feed1 w wr w.heap.size ((ls.take i).flatten.foldl fstep fs0) (fun k => (k = w.heap.size ∨ w5.heap.size ≤ k) ∧ k < wr.heap.size) ls[i] A8 c8 hB (Fd_bound hF) hok.1 (fun W hW => (hrow W (kept_then hK hW (fun k hk => .inl hk) (fun k hk hq => by omega))).2) hc8 (hlwf _ (List.getElem_mem hlt)) (by omega)
      have hnx : (ls.take (i + 1)).flatten.foldl fstep fs0 = ls[i].foldl fstep ((ls.take i).flatten.foldl fstep fs0) := by rw [take_flat ls i hlt, List.foldl_append]
      have HN := Aside0.mk hnx
      have HROWS := Aside0.mk hrows
      clear hnx hok hmem hfl h0 hrows hrow
      generalize ls[i].foldl fstep ((ls.take i).flatten.foldl fstep fs0) = s2 at *
      generalize ls[i].length = m8 at *
      subst eA
      go_wp2_with (first | (go_at_call 10; refine hfeed.mono ?_; rintro e w4 ⟨rfl, hF4, hB4, hK4⟩) | go_step3)
      go_roundw
      case rel => exact ⟨i + 1, by omega, rfl, by rw [HN.out]; exact Fd_mono hF4 (fun k hk => hk.elim (fun x => x.1) (fun x => .inr (Nat.le_trans hsr x))), Fd_kept hG hK4 (fun k hk hq => by omega), hB4, kept_then hK hK4 (fun k hk => hk) (fun k hk hq => by omega)⟩
      case measure => simp [intV]; omega
    · have hii : ¬ (i : Int) < (ls.length : Int) := by omega
      have hib : decide ((i : Int) < (ls.length : Int)) = false := decide_eq_false hii
      rw [List.take_of_length_le hge, HFLAT.out] at hF
      have hrow2 : Rows (fun k => k = w1.heap.size) wr A7 ls := Rows_kept hrows hK (fun k hk => .inl hk) (fun k _ hk => .inr hk)
      have h0 : fs0.taken = 0 := rfl
      have hfeed := feed_calls (fun k => k = w1.heap.size) w1.heap.size w wr fs0 ls A7 c7 hB hG okF0 hrow2 hlwf (by rw [HFLAT.out]; omega) (by omega)
      rw [HFLAT.out] at hfeed
      have hok := okF_run l0 fs0 okF0 hw
      have htk : (l0.foldl fstep fs0).taken ≤ 1200 := by have := hok.2; omega
      have hhd := held_run l0 fs0 held0
      have hLL := hok.1.2.2.1
      have hcl0 := hok.1.2.2.2
      have hcd := close_dec l0
      obtain ⟨K2, hK2⟩ := rsame_self (decW l0).1 (by have := dec_len l0; omega)
      have hK2 := hK2 K2 (Nat.le_refl _)
      have hFB := Fd_bound hF
      clear hrows hrow2 hok hF hG hlwf h0
      generalize decW l0 = r at *
      obtain ⟨r1, r2⟩ := r
      simp only at hK2 hdec
      generalize l0.foldl fstep fs0 = s at *
      go_upto_region 13 with (first | (go_at_call 10; refine hfeed.mono ?_; rintro e w6 ⟨rfl, hG6, hB6, hK6⟩) | go_step3)
      have hF6 := Fd_kept hFB hK6 (fun k hk hq => by omega)
      have hs6 := hK6.1
      clear hFB hfeed
      have hclose := close_calls _ w.heap.size w w6 _ hB6 hF6 hcl0 (by omega) (by omega) (by omega)
      rw [hcd] at hclose
      have HCD := Aside0.mk hcd
      clear hcd
      go_upto_region 14 with (first | (go_at_call 15; refine hclose.mono ?_; rintro e w7 ⟨A9, c9, rfl, hc9, hC9, hF7, hB7, hK7⟩) | go_step3)
      have hG7 := Fd_kept (Fd_bound hG6) hK7 (fun k hk hq => by omega)
      have hs7 := hK7.1
      clear hclose hF6 hG6
      have hclose := close_calls _ w1.heap.size w w7 _ hB7 hG7 hcl0 (by omega) (by omega) (by omega)
      rw [HCD.out] at hclose
      go_upto_region 15 with (first | (go_at_call 15; refine hclose.mono ?_; rintro e w8 ⟨A10, c10, rfl, hc10, hC10, hG8, hB8, hK8⟩) | go_step3)
      have hC8 := Kd.F_now (Kd.F_kept hC9 hK8 (fun k hk hq => by omega))
      have hF8 := Fd_kept hF7 hK8 (fun k hk hq => by omega)
      have hC10' := Kd.F_now hC10
      clear hclose hG7 hF7 hC9 hC10
      go_upto_region 16 with (first | (go_at_call 18; refine (hdec _ (Kd.C_below hr0 hB8)).mono ?_; rintro e w9 ⟨v9, rfl, ho9, hb9⟩) | go_step3)
      obtain ⟨A11, c11, e11⟩ := Kd.S_slice ho9
      subst e11
      have hs9 := Kd.R_reads' (Kd.S_R ho9)
      have hB9 := below_step hB8 hb9
      have hsm := lapidaryref03_Same.calls K2 A9 c9 r1 A11 c11 r1 true w9 (Kd.C_below hC8 hb9) hc9 hs9.2.2 hs9.2.1 hK2
      have hsm2 := fun n => lapidaryref03_Same.calls K2 A10 c10 r1 A11 c11 r1 true (w9.drewN n) (Kd.C_drewN (Kd.C_below hC10' hb9) n) hc10 (Kd.C_drewN hs9.2.2 n) hs9.2.1 hK2
      have htf := fun n => taken_calls _ _ _ (w9.drewN n) _ (Fd_below (Fd_below hF8 hb9) (pw_below_drewN (Below.refl _ _) n))
      have htg := fun n => taken_calls _ _ _ (w9.drewN n) _ (Fd_below (Fd_below hG8 hb9) (pw_below_drewN (Below.refl _ _) n))
      clear hF8 hG8
      simp only at htf htg
      go_wp2_with (first | ((have t_ := tag2; go_at_call 12; refine (htg _).mono ?_; rintro e w13 ⟨rfl, rfl⟩)) | ((go_at_call 12; refine (htf _).mono ?_; rintro e w12 ⟨rfl, rfl⟩; have tag2 := True.intro)) | ((have t_ := tag; go_at_call 17; refine (hsm2 _).mono ?_; rintro e w11 ⟨rfl, ⟨nd2, rfl⟩⟩)) | ((go_at_call 17; refine hsm.mono ?_; rintro e w10 ⟨rfl, ⟨nd, rfl⟩⟩; have tag := True.intro)) | (go_at_call 7; refine (hkn _).mono ?_; rintro e w14 ⟨rfl, hb14⟩) | go_step3)
      go_ret
      exact ⟨rfl, below_step (pw_below_drewN hB9 _) hb14⟩
end Go.Proofs.Ytglmfnaofpbpfaa.Hf

namespace Go.Proofs.Ytglmfnaofpbpfaa.P
open Go.RowKit Go.Proofs.YtglmfnaofpbpfaaW.PrintWords Go.Proofs.YtglmfnaofpbpfaaW.PrintLast Go.Proofs.YtglmfnaofpbpfaaW.PrintMore Go.Proofs.Ytglmfnaofpbpfaa.X
attribute [local go_sem] max2_int min2_int max_two min_two max_three min_three max_four min_four   -- for this text's walks alone
set_option linter.unusedVariables false
set_option linter.unusedSimpArgs false

/-! ### lapidarylaw04_FeedWhole: function 4 -/
def lapidarylaw04_FeedWhole.f (l0 : List Int) (l1 : List Int) : Option (Bool) := if (∀ x ∈ l0, 0 ≤ x ∧ x ≤ 255) ∧ (∀ x ∈ l1, 0 ≤ x ∧ x ≤ 255) then (some true) else (none)

set_option maxHeartbeats 8000000 in
set_option maxRecDepth 100000 in
theorem lapidarylaw04_FeedWhole.calls (A0 : Option Addr) (c0 : Nat) (l0 : List Int) (A1 : Option Addr) (c1 : Nat) (l1 : List Int) (r : Bool) (w : World) (hr0 : Kd.C (Kd.int .u8) w A0 l0.length l0) (hc0 : l0.length ≤ c0) (hr1 : Kd.C (Kd.int .u8) w A1 l1.length l1) (hc1 : l1.length ≤ c1) (h : lapidarylaw04_FeedWhole.f l0 l1 = some r) :
  Calls Try.prog 4 #[.slice A0 l0.length c0, .slice A1 l1.length c1] w fun e w' => e = .returned (.bool r) ∧ Below w.heap.size w w' := by
 unfold lapidarylaw04_FeedWhole.f at h
 by_cases hl : (∀ x ∈ l0, 0 ≤ x ∧ x ≤ 255) ∧ (∀ x ∈ l1, 0 ≤ x ∧ x ≤ 255)
 ·rw [if_pos hl] at h
  obtain rfl := Option.some.inj h
  exact Hf.whole_calls A0 A1 c0 c1 l0 l1 w hr0 hc0 hr1 hc1 hl.1 hl.2
 ·rw [if_neg hl] at h; cases h

end Go.Proofs.Ytglmfnaofpbpfaa.P

namespace Go.Proofs.Ytglmfnaofpbpfaa.Hf
set_option linter.unusedVariables false
set_option linter.unusedSimpArgs false
open Go Go.RowKit Go.Proofs.Ytglmfnaofpbpfaa.P Go.Proofs.Ytglmfnaofpbpfaa.C Go.Proofs.Ytglmfnaofpbpfaa.Fv Go.Proofs.YtglmfnaofpbpfaaW.PrintWords Go.Proofs.YtglmfnaofpbpfaaW.PrintLast Go.Proofs.YtglmfnaofpbpfaaW.PrintMore

theorem okM_run : ∀ (l : List Int) (m : M), okM m → (∀ c ∈ l, 0 ≤ c ∧ c ≤ 255) → okM (l.foldl stepM m) ∧ (l.foldl stepM m).all ≤ m.all + l.length
  | [], m, h, _ => ⟨h, Nat.le_refl _⟩
  | c :: l, m, h, hl => by
    have := okM_run l (stepM m c) (okM_step m c h (hl c (List.mem_cons_self))) (fun x hx => hl x (List.mem_cons_of_mem _ hx))
    have h2 := step_all m c
    exact ⟨this.1, by rw [List.foldl_cons, List.length_cons]; have := this.2; omega⟩
theorem feedm_ev (b : List Int) (m : M) (h : okM m) (hb : ∀ c ∈ b, 0 ≤ c ∧ c ≤ 255) (hl : m.all + b.length ≤ 1250) : Ev (fun k => lapidaryref04_Feed.f k m.took m.last m.fin (m.all : Int) m.L m.e b) (toT (b.foldl stepM m)) := by
  unfold lapidaryref04_Feed.f
  have key : ∀ (n i : Nat), i + n = b.length → Ev (fun k => lapidaryref04_Feed.l0 k b (i : Int) ((b.take i).foldl stepM m).took ((b.take i).foldl stepM m).last ((b.take i).foldl stepM m).fin (((b.take i).foldl stepM m).all : Int) ((b.take i).foldl stepM m).L ((b.take i).foldl stepM m).e) (toT (b.foldl stepM m)) := by
    intro n
    induction n with
    | zero =>
      intro i hi
      refine Ev.step (f := fun _ => some (toT (b.foldl stepM m))) (fun k => ?_) (Ev.now _)
      unfold lapidaryref04_Feed.l0
      rw [if_neg (by omega), List.take_of_length_le (by omega)]
      rfl
    | succ n ih =>
      intro i hi
      have hlt : i < b.length := by omega
      have hcb := hb _ (List.getElem_mem hlt)
      have hrd : rd b (i : Int) = b[i] := by simp [rd, List.getD, List.getElem?_eq_getElem hlt]
      have hok := okM_run (b.take i) m h (fun x hx => hb x (List.mem_of_mem_take hx))
      have hlen : (b.take i).length ≤ i := List.length_take_le _ _
      have hst := step_ev ((b.take i).foldl stepM m) b[i] hok.1 hcb (by have := hok.2; omega)
      have hnx : (b.take (i + 1)).foldl stepM m = stepM ((b.take i).foldl stepM m) b[i] := by
        rw [List.take_add_one, List.getElem?_eq_getElem hlt, List.foldl_append]; rfl
      have hih := ih (i + 1) (by omega)
      rw [hnx] at hih
      generalize (b.take i).foldl stepM m = m1 at *
      refine Ev.step (f := fun k => (lapidaryref03_Step.f k m1.took m1.last m1.fin (m1.all : Int) m1.L m1.e b[i]).bind fun bt234 => (lapidaryref04_Feed.l0 k b ((i + 1 : Nat) : Int) bt234.1 bt234.2.1 bt234.2.2.1 bt234.2.2.2.1 bt234.2.2.2.2.1 bt234.2.2.2.2.2)) (fun k => ?_) (Ev.bind hst hih)
      conv => lhs; unfold lapidaryref04_Feed.l0
      rw [if_pos (by omega), if_pos (by omega), hrd, w64 (by omega) (by omega)]
      rfl
  exact key b.length 0 (by omega)
def heldM (m : M) : Nat := (if m.fin = true then 0 else m.took.length) + sumB m.L
theorem held_sim (s : FS) (m : M) (h : Sim s m) (he : m.e = 0) : heldF s = heldM m := by
  obtain ⟨h1, h2, h3, h4, h5, h6, h7⟩ := h
  unfold heldF heldM
  rw [h4]
  by_cases hf : m.fin = true
  · rw [if_pos hf, h6 he hf]; rfl
  · rw [if_neg hf, (h7 he (by simpa using hf)).1]
theorem rdS' (L : List Sec) (i : Nat) (h : i < L.length) : rd_T48 L (i : Int) = L[i] := rdS L i h
theorem heldm_ev (m : M) (h : heldM m ≤ 1000000) (hL : m.L.length ≤ 1000000) : Ev (fun k => lapidaryref04_Held.f k m.took m.last m.fin (m.all : Int) m.L m.e) (heldM m : Int) := by
  have key : ∀ (n i a : Nat), i + n = m.L.length → a + sumB m.L = heldM m + sumB (m.L.take i) → Ev (fun k => lapidaryref04_Held.l0 k (a : Int) (i : Int) m.took m.last m.fin (m.all : Int) m.L m.e) (heldM m : Int) := by
    intro n
    induction n with
    | zero =>
      intro i a hi ha
      rw [List.take_of_length_le (by omega)] at ha
      refine Ev.step (f := fun _ => some (heldM m : Int)) (fun k => ?_) (Ev.now _)
      unfold lapidaryref04_Held.l0
      rw [if_neg (by omega), show a = heldM m by omega]
    | succ n ih =>
      intro i a hi ha
      have hlt : i < m.L.length := by omega
      have h1 := sumB_take m.L i hlt
      have h2 := sumB_le m.L (i + 1)
      have hih := ih (i + 1) (a + m.L[i].f1.length) (by omega) (by omega)
      refine Ev.step (f := fun k => lapidaryref04_Held.l0 k ((a + m.L[i].f1.length : Nat) : Int) ((i + 1 : Nat) : Int) m.took m.last m.fin (m.all : Int) m.L m.e) (fun k => ?_) hih
      conv => lhs; unfold lapidaryref04_Held.l0
      rw [if_pos (by omega), if_pos (by omega), rdS _ _ hlt, w64 (x := (a : Int) + _) (by omega) (by omega), w64 (by omega) (by omega)]
      rfl
  have hj : ∀ a : Nat, a + sumB m.L = heldM m → Ev (fun k => lapidaryref04_Held.j0 k (a : Int) m.took m.last m.fin (m.all : Int) m.L m.e) (heldM m : Int) := fun a ha =>
    Ev.step (f := fun k => lapidaryref04_Held.l0 k (a : Int) ((0 : Nat) : Int) m.took m.last m.fin (m.all : Int) m.L m.e) (fun k => by unfold lapidaryref04_Held.j0; rfl) (key m.L.length 0 a (by omega) (by simp [sumB] at ha ⊢; omega))
  unfold lapidaryref04_Held.f
  by_cases hf : m.fin = true
  · simp only [if_pos hf]
    exact hj 0 (by unfold heldM; rw [if_pos hf])
  · simp only [if_neg hf]
    exact hj m.took.length (by unfold heldM; rw [if_neg hf])
theorem close03 (m : M) (h : m.all ≤ 1048576) : lapidaryref03_Close.f m.took m.last m.fin (m.all : Int) m.L m.e = some (closeV m) := by
  unfold lapidaryref03_Close.f closeV
  by_cases he : m.e = 0
  · rw [if_pos he, if_pos he]
    by_cases hf : m.fin = true
    · rw [if_pos hf, if_pos hf, if_neg (by omega)]
    · rw [if_neg hf, if_neg hf]
  · rw [if_neg he, if_neg he]
/-- The document's state in memory. -/
def cellsM (v0 v4 : Value) (m : M) : Array Value := #[v0, .int .i64 m.last, .bool m.fin, .int .i64 (m.all : Int), v4, .int .i64 m.e]
def Sm (P : Nat → Prop) (base g : Nat) (w : World) (m : M) : Prop := base ≤ g ∧ P g ∧ ∃ v0 v4, w.heap[g]? = some (.cells (cellsM v0 v4 m) 28 (0, 0)) ∧ Kd.R (Kd.int .u8) 5 w base (fun k => P k ∧ k ≠ g) v0 m.took ∧ Kd.V k48 48 w base (fun k => (P k ∧ k ≠ g) ∧ some k ≠ v0.ownBlock) v4 m.L
section
variable {P P' : Nat → Prop} {base g : Nat} {w w1 : World} {m : M}
theorem Sm_below (h : Sm P base g w m) (hb : Below w.heap.size w w1) : Sm P base g w1 m := by
  obtain ⟨h0, h1, v0, v4, hg, hR, hV⟩ := h
  exact ⟨h0, h1, v0, v4, blk_below hg hb, Kd.R_below hR hb, Kd.V_below hV hb⟩
theorem Sm_mono (h : Sm P base g w m) (hp : ∀ k, P k → P' k) : Sm P' base g w m := by
  obtain ⟨h0, h1, v0, v4, hg, hR, hV⟩ := h
  exact ⟨h0, hp g h1, v0, v4, hg, Kd.R_mono hR (fun k hk => ⟨hp k hk.1, hk.2⟩), Kd.V_mono hV (fun k hk => ⟨⟨hp k hk.1.1, hk.1.2⟩, hk.2⟩)⟩
theorem Sm_lt (h : Sm P base g w m) : g < w.heap.size := by
  obtain ⟨h0, h1, v0, v4, hg, hR, hV⟩ := h
  exact (Array.getElem?_eq_some_iff.1 hg).1
theorem Sm_bound (h : Sm P base g w m) : Sm (fun k => P k ∧ k < w.heap.size) base g w m := by
  have hl := Sm_lt h
  obtain ⟨h0, h1, v0, v4, hg, hR, hV⟩ := h
  exact ⟨h0, ⟨h1, hl⟩, v0, v4, hg, Kd.R_mono (Kd.R_bound hR) (fun k hk => ⟨⟨hk.1.1, hk.2.2.1⟩, hk.1.2⟩), Kd.V_mono (Kd.V_bound hV) (fun k hk => ⟨⟨⟨hk.1.1.1, hk.2⟩, hk.1.1.2⟩, hk.1.2⟩)⟩
theorem Sm_kept {S : Nat → Prop} (h : Sm P base g w m) (hk : Kept w w1 S) (hs : ∀ k, P k → ¬ S k) : Sm P base g w1 m := by
  have hl := Sm_lt h
  obtain ⟨h0, h1, v0, v4, hg, hR, hV⟩ := h
  exact ⟨h0, h1, v0, v4, (hk.2 g hl (hs g h1)).trans hg, Kd.R_step hR (fun k ho hl => hk.2 k hl (hs k ho.1)), Kd.V_kept hV hk (fun k ho => hs k ho.1.1)⟩
end
theorem put6 {w : World} {g : Nat} {x0 x1 x2 x3 x4 x5 a b c d e f : Value} (h : w.heap[g]? = some (.cells #[x0, x1, x2, x3, x4, x5] 28 (0, 0))) :
    ((((((w.setCell ⟨g, 0, none⟩ a).setCell ⟨g, 1, none⟩ b).setCell ⟨g, 2, none⟩ c).setCell ⟨g, 3, none⟩ d).setCell ⟨g, 4, none⟩ e).setCell ⟨g, 5, none⟩ f).heap[g]? = some (.cells #[a, b, c, d, e, f] 28 (0, 0)) := by
  have h1 := blk_set (blk_set (blk_set (blk_set (blk_set (blk_set h 0 a) 1 b) 2 c) 3 d) 4 e) 5 f
  simp only [List.setIfInBounds_toArray, List.set_cons_zero, List.set_cons_succ] at h1
  exact h1
/-- A chunk, by the document's way: what was there is laid down anew. -/
theorem reffeed (w0 w : World) (g : Nat) (Q : Nat → Prop) (m : M) (b : List Int) (A0 A4 A1 : Option Addr) (c0 c4 c1 : Nat) (hB : Below w0.heap.size w0 w) (h0 : w0.heap.size ≤ g) (hQ : Q g) (hg : w.heap[g]? = some (.cells (cellsM (.slice A0 m.took.length c0) (.slice A4 m.L.length c4) m) 28 (0, 0)))
    (hR : Kd.R (Kd.int .u8) 5 w w0.heap.size (fun k => Q k ∧ k ≠ g) (.slice A0 m.took.length c0) m.took) (hV : Kd.V k48 48 w w0.heap.size (fun k => (Q k ∧ k ≠ g) ∧ some k ≠ (Value.slice A0 m.took.length c0).ownBlock) (.slice A4 m.L.length c4) m.L)
    (hr : ∀ W, Kept w W Q → Kd.C (Kd.int .u8) W A1 b.length b) (hc : b.length ≤ c1) (ho : okM m) (hb : ∀ c ∈ b, 0 ≤ c ∧ c ≤ 255) (hl : m.all + b.length ≤ 1250) :
    Calls Try.prog 11 #[.agg #[.slice A0 m.took.length c0, .int .i64 m.last, .bool m.fin, .int .i64 (m.all : Int), .slice A4 m.L.length c4, .int .i64 m.e], .slice A1 b.length c1] w fun e w' => ∃ (B0 : Option Addr) (d0 : Nat) (B4 : Option Addr) (d4 : Nat), e = .returned (.agg #[.slice B0 (b.foldl stepM m).took.length d0, .int .i64 (b.foldl stepM m).last, .bool (b.foldl stepM m).fin, .int .i64 ((b.foldl stepM m).all : Int), .slice B4 (b.foldl stepM m).L.length d4, .int .i64 (b.foldl stepM m).e]) ∧ w'.heap[g]? = some (.cells (cellsM (.slice A0 m.took.length c0) (.slice A4 m.L.length c4) m) 28 (0, 0)) ∧ Below w0.heap.size w0 w' ∧ Kept w w' (fun k => Q k ∧ k ≠ g) ∧
      Sm (fun k => Q k ∨ w.heap.size ≤ k) w0.heap.size g ((((((w'.setCell ⟨g, 0, none⟩ (.slice B0 (b.foldl stepM m).took.length d0)).setCell ⟨g, 1, none⟩ (.int .i64 (b.foldl stepM m).last)).setCell ⟨g, 2, none⟩ (.bool (b.foldl stepM m).fin)).setCell ⟨g, 3, none⟩ (.int .i64 ((b.foldl stepM m).all : Int))).setCell ⟨g, 4, none⟩ (.slice B4 (b.foldl stepM m).L.length d4)).setCell ⟨g, 5, none⟩ (.int .i64 (b.foldl stepM m).e)) (b.foldl stepM m) := by
  obtain ⟨K, hK⟩ := feedm_ev b m ho hb hl
  have hK := hK K (Nat.le_refl _)
  have hlt := blk_lt hg
  generalize b.foldl stepM m = m2 at *
  have hcall := lapidaryref04_Feed.calls K (fun k => Q k ∧ k ≠ g) (.slice A0 m.took.length c0) m.took m.last m.fin (m.all : Int) (fun k => Q k ∧ k ≠ g) A4 c4 m.L m.e A1 c1 b m2.took m2.last m2.fin (m2.all : Int) m2.L m2.e w0 w hB hR hV (fun W hW => hr W ⟨hW.1, fun i hi hn => hW.2 i hi (fun x => hn x.1)⟩) hc hK
  refine hcall.mono ?_
  rintro e w' ⟨v0, v4, rfl, hR', hV', hB', hK'⟩
  have hg' : w'.heap[g]? = _ := blk_kept hg hK' (fun x => x.2 rfl)
  obtain ⟨B0, d0, e0⟩ := Kd.R_slice hR'
  obtain ⟨B4, d4, e4⟩ := Kd.V_slice hV'
  subst e0; subst e4
  refine ⟨B0, d0, B4, d4, rfl, hg', hB', hK', h0, .inl hQ, _, _, put6 hg', ?_, ?_⟩
  · have far : ∀ {W : World} {i : Nat} {u : Value}, Kd.R (Kd.int .u8) 5 W w0.heap.size (fun k => (Q k ∨ w.heap.size ≤ k) ∧ k ≠ g) (.slice B0 m2.took.length d0) m2.took → Kd.R (Kd.int .u8) 5 (W.setCell ⟨g, i, none⟩ u) w0.heap.size (fun k => (Q k ∨ w.heap.size ≤ k) ∧ k ≠ g) (.slice B0 m2.took.length d0) m2.took := fun h => Kd.R_far h (fun k hk => hk.2) _
    exact far (far (far (far (far (far (Kd.R_mono hR' (fun k hk => hk.elim (fun x => ⟨.inl x.1, x.2⟩) (fun x => ⟨.inr x, by omega⟩))))))))
  · have far : ∀ {W : World} {i : Nat} {u : Value}, Kd.V k48 48 W w0.heap.size (fun k => ((Q k ∨ w.heap.size ≤ k) ∧ k ≠ g) ∧ some k ≠ (Value.slice B0 m2.took.length d0).ownBlock) (.slice B4 m2.L.length d4) m2.L → Kd.V k48 48 (W.setCell ⟨g, i, none⟩ u) w0.heap.size (fun k => ((Q k ∨ w.heap.size ≤ k) ∧ k ≠ g) ∧ some k ≠ (Value.slice B0 m2.took.length d0).ownBlock) (.slice B4 m2.L.length d4) m2.L := fun h => Kd.V_far h (fun k hk => hk.1.2) _
    exact far (far (far (far (far (far (Kd.V_mono hV' (fun k hk => ⟨hk.1.elim (fun y => y.elim (fun x => ⟨.inl x.1, x.2⟩) (fun x => ⟨.inl x.1, x.2⟩)) (fun x => ⟨.inr x, by omega⟩), hk.2⟩)))))))
end Go.Proofs.Ytglmfnaofpbpfaa.Hf
