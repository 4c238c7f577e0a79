/- Written for this claim by a program of this session (a turned copy of the print): Go functions as Lean functions, and that the Go code comes to just these answers; or a statement proved out of them. No condition. The document's coder, as its functions have been printed, is the coder told as a function: sums, shares, counts, steps, all digits. No condition. The document's coder, as its functions have been printed: all digits, bytes wrapped, many rows, what bytes are beyond, whose share a place is. No condition. Many rows wrapped: Many. No condition. -/
import Derived.Test.YtbdbobjdlomjnaaGreatDoorZ2
import Derived.Test.YtbdbobjdlomjnaaGreatDoorZ12
import Derived.Test.YtbdbobjdlomjnaaGreatDoorZ18
import Derived.Test.YtbdbobjdlomjnaaGreatDoorZ5
import Derived.Test.YtbdbobjdlomjnaaGreatDoorZ9
import Derived.Test.YtbdbobjdlomjnaaGreatDoorZ11

namespace Go.Proofs.YtbdbobjdlomjnaaGreatDoor.P
open Go.RowKit Go.Proofs.YtbdbobjdlomjnaaGreatDoorW.PrintWords Go.Proofs.YtbdbobjdlomjnaaGreatDoorW.PrintLast Go.Proofs.YtbdbobjdlomjnaaGreatDoorW.PrintMore Go.Proofs.YtbdbobjdlomjnaaGreatDoor.X
attribute [local go_sem] max2_int min2_int max_two min_two max_three min_three max_four min_four add64_0 add64_1 add64
set_option linter.unusedVariables false
set_option linter.unusedSimpArgs false
def rf05_Find.l0 : Nat → List Int → Int → Int → Option (Int × Int)
 | 0, _, _, _ => none
 | k + 1, x0, x1, x6 => if x6 < (x0.length : Int) then ((rf05_Sum.f k x0 x6).bind fun t319 => (if x1 ≥ t319 then ((rf05_Sum.f k x0 (wrap64 (x6 + 1))).bind fun t320 => (if x1 < t320 then (some (x6, 0)) else (rf05_Find.l0 k x0 x1 (wrap64 (x6 + 1))))) else (rf05_Find.l0 k x0 x1 (wrap64 (x6 + 1))))) else (some (0, 2))
def rf05_Find.f (k : Nat) (l0 : List Int) (a1 : Int) : Option (Int × Int) := rf05_Find.l0 k l0 a1 0
theorem rf05_Find.mono_l : ∀ k, (∀ y0 y1 y2, LeO (rf05_Find.l0 k y0 y1 y2) (rf05_Find.l0 (k + 1) y0 y1 y2))
 | 0 => fun _ _ _ r h => by simp [rf05_Find.l0] at h
 | k + 1 => by
  have ih0 := rf05_Find.mono_l k
  ·intro y0 y1 y2
   unfold rf05_Find.l0
   repeat' first
   | (with_reducible exact ih0 _ _ _)
   | (with_reducible exact rf05_Sum.mono _ _ _)
   | (with_reducible exact LeO.refl _)
   | (with_reducible exact LeO.none _)
   | (with_reducible refine LeO.ite ?_ ?_)
   | (with_reducible refine LeO.bind ?_ (fun _ => ?_))
   | exact ih0 _ _ _
   | exact rf05_Sum.mono _ _ _
   | exact LeO.none _
   | refine LeO.ite ?_ ?_
   | refine LeO.bind ?_ (fun _ => ?_)
theorem rf05_Find.mono : ∀ a0 a1 k, LeO (rf05_Find.f k a0 a1) (rf05_Find.f (k + 1) a0 a1) := by
 intro a0 a1 k
 have ih0 := rf05_Find.mono_l k
 unfold rf05_Find.f
 repeat' first
   | (with_reducible exact ih0 _ _ _)
   | (with_reducible exact rf05_Sum.mono _ _ _)
   | (with_reducible exact LeO.refl _)
   | (with_reducible exact LeO.none _)
   | (with_reducible refine LeO.ite ?_ ?_)
   | (with_reducible refine LeO.bind ?_ (fun _ => ?_))
   | exact ih0 _ _ _
   | exact rf05_Sum.mono _ _ _
   | exact LeO.none _
   | refine LeO.ite ?_ ?_
   | refine LeO.bind ?_ (fun _ => ?_)
set_option maxHeartbeats 8000000 in
set_option maxRecDepth 100000 in
theorem rf05_Find.calls (k : Nat) (A0 : Option Addr) (c0 : Nat) (l0 : List Int) (a1 : Int) (r1 : Int) (r2 : Int) (w : World) (hr0 : Kd.C (Kd.int .i64) w A0 l0.length l0) (hc0 : l0.length ≤ c0) (h : rf05_Find.f k l0 a1 = some (r1, r2)) :
  Calls Tryz.prog 106 #[.slice A0 l0.length c0, .int .i64 a1] w fun e w' => e = .returned (.tuple #[.int .i64 r1, .int .i64 r2]) ∧ Drawn0 w w' := by
 have HR0 := Aside0.mk hr0
 have HC0 := Aside0.mk hc0
 clear hr0 hc0
 have H : (rf05_Find.l0 k l0 a1 0) = some (r1, r2) := h
 clear h
 have H' := Aside0.mk H
 clear H
 go_enter Tryz.func106, Tryz.ntmps106
 go_wp2
 go_loopg [6] k (fun kq v6 w' => ∃ (x6_1 : Int), v6 = .int .i64 x6_1 ∧ Aside0 (rf05_Find.l0 kq l0 a1 x6_1 = some (r1, r2)) ∧ Aside0 (kq ≤ k) ∧ Drawn0 w w')
 case atStart => exact ⟨(0), (by first | rfl | (simp; done) | (simp [*]; done)), H', ⟨Nat.le_refl _⟩, by repeat (first | exact Drawn0.refl _ | apply Drawn0.step)⟩
 case round =>
  clear H'
  try clear c1
  try clear p2
  obtain ⟨x6_1, rfl, HA, HK1, ⟨m1, rfl⟩⟩ := hrel
  cases gk with
  | zero => exact absurd HA.out (by simp [rf05_Find.l0])
  | succ k1 =>
   have H := HA.out
   clear HA
   simp only [rf05_Find.l0] at H
   by_cases c3 : x6_1 < (l0.length : Int)
   ·rw [if_pos c3] at H
    have c3b0 : decide (x6_1 < (l0.length : Int)) = true := decide_eq_true c3
    clear c3
    replace H := Option.bind_eq_some_iff.mp H
    obtain ⟨t319, A40, H⟩ := H
    replace H : (if a1 ≥ t319 then ((rf05_Sum.f k1 l0 (wrap64 (x6_1 + 1))).bind fun t320 => (if a1 < t320 then (some (x6_1, 0)) else (rf05_Find.l0 k1 l0 a1 (wrap64 (x6_1 + 1))))) else (rf05_Find.l0 k1 l0 a1 (wrap64 (x6_1 + 1)))) = some (r1, r2) := H
    have A4 := Aside0.mk A40
    clear A40
    by_cases c5 : a1 ≥ t319
    ·rw [if_pos c5] at H
     have c5b0 : decide (t319 ≤ a1) = true := decide_eq_true c5
     clear c5
     replace H := Option.bind_eq_some_iff.mp H
     obtain ⟨t320, A60, H⟩ := H
     replace H : (if a1 < t320 then (some (x6_1, 0)) else (rf05_Find.l0 k1 l0 a1 (wrap64 (x6_1 + 1)))) = some (r1, r2) := H
     have A6 := Aside0.mk A60
     clear A60
     have HC7 := Aside0.mk H
     clear H
     go_upto_if 25 with (first | ((with_reducible refine gate_callee (f := 161) rfl ?_); refine goesL_ (some 16) rfl rfl Tryz.func161 (by kernel_rfl) rfl #[.slice A0 l0.length c0, .int .i64 x6_1] rfl (by (try simp only [List.map_toArray, List.map_cons, List.map_nil]); first | done | rfl | (simp only [List.length_drop, List.length_take]; rfl)) ?_; (with_reducible refine (rf05_Sum.calls k1 _ _ l0 x6_1 t319 _ ?side1 ?side2 A4.out).mono ?_); (case side1 => repeat (first | exact HR0.out | (with_reducible refine Kd.C_alloc ?_ _) | (with_reducible refine Kd.C_drewN ?_ _) | (with_reducible refine Kd.C_drew ?_))); (case side2 => exact HC0.out); rintro e w' ⟨rfl, ⟨nd, rfl⟩⟩; refine ⟨_, rfl, ?_⟩) | (go_at_call 161; (with_reducible refine (rf05_Sum.calls k1 _ _ l0 (wrap64 (x6_1 + 1)) t320 _ ?side1 ?side2 A6.out).mono ?_); (case side1 => repeat (first | exact HR0.out | (with_reducible refine Kd.C_alloc ?_ _) | (with_reducible refine Kd.C_drewN ?_ _) | (with_reducible refine Kd.C_drew ?_))); (case side2 => exact HC0.out); rintro e w' ⟨rfl, ⟨nd, rfl⟩⟩))
     (try simp only [Act.put, List.setIfInBounds_toArray, List.set_cons_zero, List.set_cons_succ])
     have H := HC7.out
     clear HC7
     by_cases c8 : a1 < t320
     ·rw [if_pos c8] at H
      have c8b0 : decide (a1 < t320) = true := decide_eq_true c8
      clear c8
      (first | rw [c8b0] | (simp only [i64_w, i32_w]; rw [c8b0]) | skip)
      simp only [Option.some.injEq, Prod.mk.injEq] at H
      obtain ⟨rfl, rfl⟩ := H
      go_wp2
      go_ret2
      exact ⟨by first | rfl | (simp; done) | (simp [*]; done), by repeat (first | exact Drawn0.refl _ | apply Drawn0.step)⟩
     ·rw [if_neg c8] at H
      have c8b0 : decide (a1 < t320) = false := decide_eq_false c8
      clear c8
      (first | rw [c8b0] | (simp only [i64_w, i32_w]; rw [c8b0]) | skip)
      have H' := Aside0.mk H
      clear H
      go_wp2
      go_roundg k1
      case measure => have := HK1.out; omega
      case rel => exact ⟨(wrap64 (x6_1 + 1)), (by first | rfl | (simp; done) | (simp [*]; done)), H', ⟨by have := HK1.out; omega⟩, by repeat (first | exact Drawn0.refl _ | apply Drawn0.step)⟩
    ·rw [if_neg c5] at H
     have c5b0 : decide (t319 ≤ a1) = false := decide_eq_false c5
     clear c5
     have H' := Aside0.mk H
     clear H
     go_wp2_with (first | ((with_reducible refine gate_callee (f := 161) rfl ?_); refine goesL_ (some 16) rfl rfl Tryz.func161 (by kernel_rfl) rfl #[.slice A0 l0.length c0, .int .i64 x6_1] rfl (by (try simp only [List.map_toArray, List.map_cons, List.map_nil]); first | done | rfl | (simp only [List.length_drop, List.length_take]; rfl)) ?_; (with_reducible refine (rf05_Sum.calls k1 _ _ l0 x6_1 t319 _ ?side1 ?side2 A4.out).mono ?_); (case side1 => repeat (first | exact HR0.out | (with_reducible refine Kd.C_alloc ?_ _) | (with_reducible refine Kd.C_drewN ?_ _) | (with_reducible refine Kd.C_drew ?_))); (case side2 => exact HC0.out); rintro e w' ⟨rfl, ⟨nd, rfl⟩⟩; refine ⟨_, rfl, ?_⟩))
     go_roundg k1
     case measure => have := HK1.out; omega
     case rel => exact ⟨(wrap64 (x6_1 + 1)), (by first | rfl | (simp; done) | (simp [*]; done)), H', ⟨by have := HK1.out; omega⟩, by repeat (first | exact Drawn0.refl _ | apply Drawn0.step)⟩
   ·rw [if_neg c3] at H
    have c3b0 : decide (x6_1 < (l0.length : Int)) = false := decide_eq_false c3
    clear c3
    simp only [Option.some.injEq, Prod.mk.injEq] at H
    obtain ⟨rfl, rfl⟩ := H
    go_wp2
    go_ret2
    exact ⟨by first | rfl | (simp; done) | (simp [*]; done), by repeat (first | exact Drawn0.refl _ | apply Drawn0.step)⟩
end Go.Proofs.YtbdbobjdlomjnaaGreatDoor.P

namespace Go.Proofs.YtbdbobjdlomjnaaGreatDoor.Ec
set_option linter.unusedVariables false
set_option linter.unusedSimpArgs false
open Go Go.RowKit Go.Proofs.YtbdbobjdlomjnaaGreatDoor.P Go.Proofs.YtbdbobjdlomjnaaGreatDoor.C Go.Proofs.YtbdbobjdlomjnaaGreatDoor.Fv Go.Proofs.YtbdbobjdlomjnaaGreatDoorW.PrintWords Go.Proofs.YtbdbobjdlomjnaaGreatDoorW.PrintLast Go.Proofs.YtbdbobjdlomjnaaGreatDoorW.PrintMore
theorem rd_at (c : List Int) (i : Nat) : rd c (i : Int) = c.getD i 0 := by simp [rd]
theorem nx {i : Nat} (h : i < 4611686018427387904) : wrap64 ((i : Int) + 1) = ((i + 1 : Nat) : Int) := by rw [w64 (by omega) (by omega)]; omega
theorem sumI_take_nn (c : List Int) (hc : ∀ d ∈ c, 1 ≤ d) (i : Nat) : 0 ≤ sumI (c.take i) := sumI_nn _ (fun d hd => hc d (List.mem_of_mem_take hd))
theorem sum_l0 (c : List Int) (hc : ∀ d ∈ c, 1 ≤ d) (hs : sumI c ≤ 1099511627776) (n : Nat) (hn : n ≤ c.length) : ∀ m i : Nat, i + m = n → Ev (fun k => rf05_Sum.l0 k c (n : Int) (sumI (c.take i)) (i : Int)) (sumI (c.take n)) := by
 have hl := len_le_sumI c hc
 intro m
 induction m with
 | zero =>
  intro i hm
  refine Ev.step (fun k => rf05_Sum.l0.eq_2 _ _ _ _ _) ?_
  simp only [if_neg (show ¬ ((i : Int) < (n : Int)) by omega)]
  obtain rfl : i = n := by omega
  exact Ev.now _
 | succ m ih =>
  intro i hm
  have h1 := sumI_take_succ c i (by omega)
  have h2 := sumI_take_le c hc (i + 1)
  have h3 := sumI_take_nn c hc i
  have h4 := getD_pos hc (show i < c.length by omega)
  refine Ev.step (fun k => rf05_Sum.l0.eq_2 _ _ _ _ _) ?_
  simp only [if_pos (show (i : Int) < (n : Int) by omega), if_pos (show (0 : Int) ≤ (i : Int) by omega), if_pos (show (i : Int) < (c.length : Int) by omega), rd_at, nx (show i < 4611686018427387904 by omega)]
  rw [w64 (by omega) (by omega), ← h1]
  exact ih (i + 1) (by omega)
theorem sum_ev (c : List Int) (hc : ∀ d ∈ c, 1 ≤ d) (hs : sumI c ≤ 1099511627776) (n : Nat) (hn : n ≤ c.length) : Ev (fun k => rf05_Sum.f k c (n : Int)) (sumI (c.take n)) := sum_l0 c hc hs n hn n 0 (by omega)
theorem sum_all (c : List Int) (hc : ∀ d ∈ c, 1 ≤ d) (hs : sumI c ≤ 1099511627776) : Ev (fun k => rf05_Sum.f k c (c.length : Int)) (sumI c) := by
 have := sum_ev c hc hs c.length (Nat.le_refl _)
 rwa [List.take_length] at this
theorem whole_ev (c N : List Int) (R : Int) (h : MOk c) : Ev (fun k => rf06_whole.f k [c] N R 0) (sumI c) := by
 have hs := h.s
 unfold rf06_whole.f
 simp only [if_neg (show ¬ ((0 : Int) < 0) by decide)]
 refine Ev.step (fun k => rf06_whole.j0.eq_2 _ _ _ _ _ _) ?_
 simp only [Bool.false_eq_true, if_false, if_neg (show ¬ ((0 : Int) < 0) by decide), if_neg (show ¬ ((0 : Int) ≥ (([c] : List (List Int)).length : Int)) by simp), if_pos (show (0 : Int) ≤ 0 by decide), if_pos (show (0 : Int) < (([c] : List (List Int)).length : Int) by simp)]
 exact Ev.bind (sum_all c h.p (by omega)) (Ev.now _)
theorem rshare_ev (c : List Int) (x : Int) (h : MOk c) (hx : In x) : Ev (fun k => rf05_Share.f k c x) (lowC c x, c.getD x.toNat 0, 0) := by
 have hs := h.s
 have hn := h.n
 obtain ⟨x0, x1⟩ := hx
 unfold rf05_Share.f
 obtain ⟨n, rfl⟩ : ∃ n : Nat, x = (n : Int) := ⟨x.toNat, by omega⟩
 simp only [if_neg (show ¬ ((n : Int) < 0) by omega), if_neg (show ¬ ((n : Int) ≥ (c.length : Int)) by omega), if_pos (show (0 : Int) ≤ (n : Int) by omega), if_pos (show (n : Int) < (c.length : Int) by omega), rd_at]
 exact Ev.bind (sum_ev c h.p (by omega) n (by omega)) (Ev.now _)
theorem share_ev (c N : List Int) (R x : Int) (h : MOk c) (hx : In x) : Ev (fun k => rf06_share.f k [c] N R 0 x) (lowC c x, c.getD x.toNat 0) := by
 have hg := h.ge
 unfold rf06_share.f
 refine Ev.bind (whole_ev c N R h) ?_
 simp only [if_neg (show ¬ (sumI c = 0) by omega), if_neg (show ¬ ((0 : Int) < 0) by decide), if_pos (show (0 : Int) ≤ 0 by decide), if_pos (show (0 : Int) < (([c] : List (List Int)).length : Int) by simp)]
 refine Ev.bind (rshare_ev c x h hx) ?_
 simp only [if_true]
 exact Ev.now _
theorem add_l0 (N : List Int) (x : Int) (hN : Dg N) (hx : 0 ≤ x) (hx1 : x ≤ 1099511627776) (hl : N.length ≤ 1099511627776) : ∀ i : Nat, i ≤ N.length → Ev (fun k => rf06_add.l0 k (addD (N.drop i) x).2 (N.take i ++ (addD (N.drop i) x).1) ((i : Int) - 1)) (addD N x).1 := by
 intro i
 induction i with
 | zero =>
  intro _
  refine Ev.step (fun k => rf06_add.l0.eq_2 _ _ _ _) ?_
  simp only [if_neg (show ¬ (((0 : Nat) : Int) - 1 ≥ 0) by omega)]
  exact Ev.now _
 | succ i ih =>
  intro hi
  have hd : N.drop i = N[i] :: N.drop (i + 1) := List.drop_eq_getElem_cons (by omega)
  have hc := addD_car hx (N.drop (i + 1)) (Dg_drop hN _)
  have hb := hN _ (List.getElem_mem (show i < N.length by omega))
  have hlen : (N.take (i + 1) ++ (addD (N.drop (i + 1)) x).1).length = N.length := by rw [List.length_append, addD_len, List.length_take, List.length_drop]; omega
  have hr : rd (N.take (i + 1) ++ (addD (N.drop (i + 1)) x).1) (i : Int) = N[i] := by
   rw [rd_at, List.getD_eq_getElem?_getD, List.getElem?_append_left (by rw [List.length_take]; omega), List.getElem?_take, if_pos (by omega), List.getElem?_eq_getElem (by omega)]
   rfl
  have hst : ∀ v : Int, (N.take (i + 1) ++ (addD (N.drop (i + 1)) x).1).set i v = N.take i ++ v :: (addD (N.drop (i + 1)) x).1 := by
   intro v
   rw [show N.take (i + 1) = N.take i ++ [N[i]] by rw [List.take_add_one, List.getElem?_eq_getElem (by omega)]; rfl, List.append_assoc, List.set_append_right _ _ (by rw [List.length_take]; omega)]
   rw [show i - (N.take i).length = 0 by rw [List.length_take]; omega]
   rfl
  have ih := ih (by omega)
  rw [hd] at ih
  simp only [addD] at ih
  refine Ev.step (fun k => rf06_add.l0.eq_2 _ _ _ _) ?_
  rw [show (((i + 1 : Nat) : Int) - 1) = (i : Int) by omega]
  simp only [hlen, if_pos (show (i : Int) ≥ 0 by omega), if_pos (show (i : Int) < (N.length : Int) by omega), hr, Int.toNat_natCast, hst]
  rw [w64 (x := (addD (N.drop (i + 1)) x).2 + N[i]) (by omega) (by omega), Int.tdiv_eq_ediv_of_nonneg (by omega), Int.tmod_eq_emod_of_nonneg (by omega), w64 (x := ((addD (N.drop (i + 1)) x).2 + N[i]) / 256) (by omega) (by omega), w64 (x := (i : Int) - 1) (by omega) (by omega)]
  exact ih
theorem add_ev (N : List Int) (x : Int) (hN : Dg N) (hx : 0 ≤ x) (hx1 : x ≤ 1099511627776) (hl : N.length ≤ 1099511627776) : Ev (fun k => rf06_add.f k N x) (addD N x).1 := by
 unfold rf06_add.f
 simp only [List.length_nil, Nat.zero_add, if_pos (show N.length < 17592186044416 by omega), List.nil_append, Option.bind_some]
 have := add_l0 N x hN hx hx1 hl N.length (Nat.le_refl _)
 rw [List.take_length, List.drop_length] at this
 simp only [addD, List.append_nil] at this
 rw [w64 (x := (N.length : Int) - 1) (by omega) (by omega)]
 exact this
theorem half_l0 (c : List Int) (hc : ∀ d ∈ c, 0 ≤ d ∧ d ≤ 1099511627776) (hl : c.length ≤ 1099511627776) : ∀ m i : Nat, i + m = c.length → Ev (fun k => rf05_Count.l0 k (halveC (c.take i) ++ c.drop i) (i : Int)) (halveC c) := by
 have hlen : ∀ i, i ≤ c.length → (halveC (c.take i) ++ c.drop i).length = c.length := fun i hi => by
  unfold halveC; rw [List.length_append, List.length_map, List.length_take, List.length_drop]; omega
 intro m
 induction m with
 | zero =>
  intro i hm
  obtain rfl : i = c.length := by omega
  refine Ev.step (fun k => rf05_Count.l0.eq_2 _ _ _) ?_
  simp only [hlen _ (Nat.le_refl _), if_neg (show ¬ ((c.length : Int) < (c.length : Int)) by omega)]
  rw [List.take_length, List.drop_length, List.append_nil]
  exact Ev.now _
 | succ m ih =>
  intro i hm
  have hb := hc _ (List.getElem_mem (show i < c.length by omega))
  have hmt : (halveC (c.take i)).length = i := by unfold halveC; rw [List.length_map, List.length_take]; omega
  have hd : c.drop i = c[i] :: c.drop (i + 1) := List.drop_eq_getElem_cons (by omega)
  have hr : rd (halveC (c.take i) ++ c.drop i) (i : Int) = c[i] := by
   rw [rd_at, List.getD_eq_getElem?_getD, List.getElem?_append_right (by omega), hmt, Nat.sub_self, hd]
   rfl
  have hst : ∀ v : Int, v = (c[i] + 1) / 2 → (halveC (c.take i) ++ c.drop i).set i v = halveC (c.take (i + 1)) ++ c.drop (i + 1) := by
   rintro v rfl
   rw [List.set_append_right _ _ (by omega), hmt, Nat.sub_self, hd, show c.take (i + 1) = c.take i ++ [c[i]] by rw [List.take_add_one, List.getElem?_eq_getElem (by omega)]; rfl]
   unfold halveC
   rw [List.map_append, List.append_assoc]
   rfl
  refine Ev.step (fun k => rf05_Count.l0.eq_2 _ _ _) ?_
  simp only [hlen _ (show i ≤ c.length by omega), if_pos (show (i : Int) < (c.length : Int) by omega), if_pos (show (0 : Int) ≤ (i : Int) by omega), hr, Int.toNat_natCast, nx (show i < 4611686018427387904 by omega)]
  rw [w64 (x := c[i] + 1) (by omega) (by omega), Int.tdiv_eq_ediv_of_nonneg (by omega), w64 (x := (c[i] + 1) / 2) (by omega) (by omega), hst _ rfl]
  exact ih (i + 1) (by omega)
theorem count_ev (c : List Int) (x : Int) (h : MOk c) (hx : In x) : Ev (fun k => rf05_Count.f k c x) (countC c x) := by
 have hs := h.s
 have hn := h.n
 obtain ⟨x0, x1⟩ := hx
 obtain ⟨n, rfl⟩ : ∃ n : Nat, x = (n : Int) := ⟨x.toNat, by omega⟩
 have hg := getD_pos h.p (show n < c.length by omega)
 have hss := sumI_set c n (c.getD n 0 + 32) (by omega)
 have hp1 := set_pos h.p (x := n) (v := c.getD n 0 + 32) (by omega)
 have hcb : c.getD n 0 ≤ sumI c := by
  have h1 := sumI_take_succ c n (by omega)
  have h2 := sumI_take_le c h.p (n + 1)
  have h3 := sumI_take_nn c h.p n
  omega
 unfold rf05_Count.f
 simp only [List.length_nil, Nat.zero_add, if_pos (show c.length < 17592186044416 by omega), List.nil_append, Option.bind_some, if_pos (show (0 : Int) ≤ (n : Int) by omega), if_pos (show (n : Int) < (c.length : Int) by omega), rd_at, Int.toNat_natCast]
 rw [w64 (x := c.getD n 0 + 32) (by omega) (by omega)]
 have hse : Ev (fun k => rf05_Sum.f k (c.set n (c.getD n 0 + 32)) (c.length : Int)) (sumI (c.set n (c.getD n 0 + 32))) := by
  have := sum_all (c.set n (c.getD n 0 + 32)) hp1 (by omega)
  rwa [List.length_set] at this
 refine Ev.bind hse ?_
 unfold countC
 simp only [Int.toNat_natCast]
 by_cases hb : 8192 < sumI (c.set n (c.getD n 0 + 32))
 ·simp only [if_pos hb, if_pos (show sumI (c.set n (c.getD n 0 + 32)) > 8192 from hb)]
  have hbd : ∀ d ∈ c.set n (c.getD n 0 + 32), 0 ≤ d ∧ d ≤ 1099511627776 := fun d hd => by
   obtain ⟨i, hi, rfl⟩ := List.getElem_of_mem hd
   have h1 := sumI_take_succ _ i hi
   have h2 := sumI_take_le _ hp1 (i + 1)
   have h3 := sumI_take_nn _ hp1 i
   have h4 := hp1 _ (List.getElem_mem hi)
   have h5 : (c.set n (c.getD n 0 + 32)).getD i 0 = (c.set n (c.getD n 0 + 32))[i] := by rw [List.getD_eq_getElem?_getD, List.getElem?_eq_getElem hi]; rfl
   omega
  have := half_l0 (c.set n (c.getD n 0 + 32)) hbd (by rw [List.length_set]; omega) _ 0 (Nat.zero_add _)
  exact this
 ·simp only [if_neg hb, if_neg (show ¬ (sumI (c.set n (c.getD n 0 + 32)) > 8192) from hb)]
  exact Ev.now _
theorem step_l0 (c : List Int) (x : Int) (h : MOk c) (hx : In x) : ∀ (m : Nat) (N : List Int) (r : Int), N.length + m < 1099511627776 → 1 ≤ r → r * 256 ^ m < 4294967296 → 16777216 ≤ r * 256 ^ m → (∀ j, j < m → r * 256 ^ j < 16777216) → Ev (fun k => rf06_Step.l0 k [c] N r 0 x) ([countC c x], N ++ List.replicate m 0, r * 256 ^ m, true) := by
 intro m
 induction m with
 | zero =>
  intro N r hN h1 h2 h3 _
  rw [Int.pow_zero, Int.mul_one] at h2 h3
  refine Ev.step (fun k => rf06_Step.l0.eq_2 _ _ _ _ _ _) ?_
  simp only [if_neg (show ¬ (r < 16777216) by omega), if_pos (show (0 : Int) ≥ 0 by decide), List.length_nil, List.length_cons, Nat.zero_add, if_pos (show (1 : Nat) < 5864062014805 by decide), List.nil_append, Option.bind_some, if_pos (show (0 : Int) < ((1 : Nat) : Int) by decide)]
  refine Ev.bind (count_ev c x h hx) ?_
  rw [Int.pow_zero, Int.mul_one, List.replicate_zero, List.append_nil]
  exact Ev.now _
 | succ m ih =>
  intro N r hN h1 h2 h3 h4
  have h0 := h4 0 (by omega)
  rw [Int.pow_zero, Int.mul_one] at h0
  have e : ∀ j, r * 256 ^ (j + 1) = r * 256 * 256 ^ j := fun j => by rw [pow_succ', Int.mul_comm (256 ^ j), Int.mul_assoc]
  have ih := ih (N ++ [0]) (r * 256) (by rw [List.length_append]; simp only [List.length_cons, List.length_nil]; omega) (by omega) (by rw [← e]; exact h2) (by rw [← e]; exact h3) (fun j hj => by rw [← e]; exact h4 (j + 1) (by omega))
  rw [e, show N ++ List.replicate (m + 1) (0 : Int) = N ++ [0] ++ List.replicate m 0 by rw [List.replicate_succ, List.append_assoc]; rfl]
  refine Ev.step (fun k => rf06_Step.l0.eq_2 _ _ _ _ _ _) ?_
  simp only [if_pos h0, if_pos (show N.length < 17592186044416 by omega)]
  rw [w64 (x := r * 256) (by omega) (by omega)]
  exact ih
theorem nsh_of {r : Int} (h0 : 256 ≤ r) (h1 : r < 4294967296) : r * 256 ^ nsh r < 4294967296 ∧ 16777216 ≤ r * 256 ^ nsh r ∧ ∀ j, j < nsh r → r * 256 ^ j < 16777216 := by
 unfold nsh
 split
 ·rename_i h
  refine ⟨by rw [show (256 : Int) ^ 2 = 65536 by decide]; omega, by rw [show (256 : Int) ^ 2 = 65536 by decide]; omega, fun j hj => ?_⟩
  have : j = 0 ∨ j = 1 := by omega
  rcases this with rfl | rfl
  ·rw [Int.pow_zero]; omega
  ·rw [show (256 : Int) ^ 1 = 256 by decide]; omega
 ·split
  ·refine ⟨by rw [show (256 : Int) ^ 1 = 256 by decide]; omega, by rw [show (256 : Int) ^ 1 = 256 by decide]; omega, fun j hj => ?_⟩
   obtain rfl : j = 0 := by omega
   rw [Int.pow_zero]; omega
  ·exact ⟨by rw [Int.pow_zero]; omega, by rw [Int.pow_zero]; omega, fun j hj => by omega⟩
theorem step_ev (s : RS) (x : Int) (h : ROk s) (hx : In x) (hN : s.N.length ≤ 1048576) : Ev (fun k => rf06_Step.f k [s.c] s.N s.r 0 x) ([(stepR s x).c], (stepR s x).N, (stepR s x).r, true) := by
 obtain ⟨b1, b2, b3, b4, b5, b6⟩ := share_bd h.a hx
 obtain ⟨q1, q2⟩ := qA_bd h.a
 have hr := h.a.r
 have hm : MOk s.c := h.a.m
 have hg := hm.ge
 have e1 : qA (absR s) = qR s := rfl
 have e2 : (absR s).c = s.c := rfl
 have e3 : (absR s).r = s.r := rfl
 have e4 : r1A (absR s) x = r1R s x := rfl
 rw [e1, e2, e3] at q2
 rw [e1, e2] at b1
 rw [e4] at b2
 rw [e1, e2, e3, e4] at b3
 rw [e2] at b4
 rw [e3] at hr
 rw [e1] at q1
 obtain ⟨n1, n2, n3⟩ := nsh_of (show 256 ≤ r1R s x by omega) (show r1R s x < 4294967296 by omega)
 unfold rf06_Step.f
 refine Ev.bind (share_ev s.c s.N s.r x hm hx) ?_
 simp only [if_neg (show ¬ (s.c.getD x.toNat 0 = 0) by omega)]
 refine Ev.bind (whole_ev s.c s.N s.r hm) ?_
 simp only [if_neg (show ¬ (sumI s.c = 0) by omega)]
 have hq : wrap64 (Int.tdiv s.r (sumI s.c)) = qR s := by
  rw [Int.tdiv_eq_ediv_of_nonneg (by omega)]
  unfold qR at q1 q2 ⊢
  rw [w64 (by omega) ?_]
  have := Int.ediv_le_self (sumI s.c) (show 0 ≤ s.r by omega)
  omega
 rw [hq, w64 (x := qR s * lowC s.c x) (by omega) (by omega)]
 refine Ev.bind (add_ev s.N _ h.d b1 (by omega) (by omega)) ?_
 rw [show qR s * s.c.getD x.toNat 0 = r1R s x from rfl, w64 (x := r1R s x) (by omega) (by omega)]
 have hn2 : nsh (r1R s x) ≤ 2 := nsh_le _
 exact step_l0 s.c x hm hx (nsh (r1R s x)) _ _ (by rw [addD_len]; omega) (by omega) n1 n2 n3

theorem digits_l0 (N : List Int) (hN : Dg N) (hl : N.length ≤ 1099511627776) : ∀ m i : Nat, i + m = N.length → Ev (fun k => rf06_digits.l0 k N (N.take i) (i : Int)) N := by
 intro m
 induction m with
 | zero =>
  intro i hm
  refine Ev.step (fun k => rf06_digits.l0.eq_2 _ _ _ _) ?_
  simp only [if_neg (show ¬ ((i : Int) < (N.length : Int)) by omega)]
  rw [List.take_of_length_le (by omega)]
  exact Ev.now _
 | succ m ih =>
  intro i hm
  have hi : i < N.length := by omega
  have hb := hN _ (List.getElem_mem hi)
  have hr : rd N (i : Int) = N[i] := by rw [rd_at, List.getD_eq_getElem?_getD, List.getElem?_eq_getElem hi]; rfl
  have hsn : N.take (i + 1) = N.take i ++ [N[i]] := by rw [List.take_add_one, List.getElem?_eq_getElem hi]; rfl
  refine Ev.step (fun k => rf06_digits.l0.eq_2 _ _ _ _) ?_
  simp only [if_pos (show (i : Int) < (N.length : Int) by omega), if_pos (show (0 : Int) ≤ (i : Int) by omega), if_pos (show (N.take i).length < 140737488355328 by rw [List.length_take]; omega), hr, nx (show i < 4611686018427387904 by omega)]
  rw [show N[i] % 256 = N[i] by omega, ← hsn]
  exact ih (i + 1) (by omega)
theorem digits_ev (N : List Int) (hN : Dg N) (hl : N.length ≤ 1099511627776) : Ev (fun k => rf06_digits.f k N) N := digits_l0 N hN hl N.length 0 (by omega)
theorem stepsR_snoc : ∀ (l : List Int) (s : RS) (x : Int), stepsR s (l ++ [x]) = stepR (stepsR s l) x
 | [], _, _ => rfl
 | y :: l, s, x => by rw [List.cons_append, stepsR, stepsR_snoc l]; rfl
theorem stepR_len (s : RS) (x : Int) : (stepR s x).N.length ≤ s.N.length + 2 := by
 have := nsh_le (r1R s x)
 show (_ ++ _ : List Int).length ≤ _
 rw [List.length_append, addD_len, List.length_replicate]
 omega
theorem stepsR_len : ∀ (l : List Int) (s : RS), (stepsR s l).N.length ≤ s.N.length + 2 * l.length
 | [], s => by simp [stepsR]
 | y :: l, s => by
  have h1 := stepsR_len l (stepR s y)
  have h2 := stepR_len s y
  simp only [stepsR, List.length_cons]
  omega
theorem take_snoc {α : Type} (l : List α) (i : Nat) (h : i < l.length) : l.take (i + 1) = l.take i ++ [l[i]] := by rw [List.take_add_one, List.getElem?_eq_getElem h]; rfl
theorem enc_l0 (l : List Int) (hl : ∀ x ∈ l, In x) (hn : l.length ≤ 65536) : ∀ m i : Nat, i + m = l.length → Ev (fun k => rf06_Encode.l0 k (codesOf l) (i : Int) [(stepsR s0R (l.take i)).c] (stepsR s0R (l.take i)).N (stepsR s0R (l.take i)).r) (encV l, 0) := by
 intro m
 induction m with
 | zero =>
  intro i hm
  obtain rfl : i = l.length := by omega
  refine Ev.step (fun k => rf06_Encode.l0.eq_2 _ _ _ _ _ _) ?_
  simp only [codesOf_len, if_neg (show ¬ ((l.length : Int) < (l.length : Int)) by omega), if_neg (show ¬ ((l.length : Int) > 65536) by omega)]
  rw [List.take_length, stepsR_enc hl]
  have hlen := encV_len hl
  refine Ev.bind (digits_ev _ (encV_of hl).1 (by omega)) (Ev.now _)
 | succ m ih =>
  intro i hm
  have hi : i < l.length := by omega
  have hx := hl _ (List.getElem_mem hi)
  have hsn := take_snoc l i hi
  have hok := (stepsR_of (l.take i) s0R rok0 (fun x hx => hl x (List.mem_of_mem_take hx))).1
  have hlen := stepsR_len (l.take i) s0R
  rw [show s0R.N.length = 5 from rfl, List.length_take] at hlen
  have ih := ih (i + 1) (by omega)
  rw [hsn, stepsR_snoc] at ih
  generalize stepsR s0R (l.take i) = s at *
  refine Ev.step (fun k => rf06_Encode.l0.eq_2 _ _ _ _ _ _) ?_
  simp only [codesOf_len, if_pos (show (i : Int) < (l.length : Int) by omega), if_pos (show (0 : Int) ≤ (i : Int) by omega), codesOf_rd l i hi, nx (show i < 4611686018427387904 by omega)]
  refine Ev.bind (step_ev s l[i] hok hx (by omega)) ?_
  simp only [if_true]
  exact ih
theorem new_l0 (n : Nat) (hn : n ≤ 256) : ∀ m i : Nat, i + m = n → Ev (fun k => rf05_New.l0 k (n : Int) (List.replicate i 1) (i : Int)) (List.replicate n 1) := by
 intro m
 induction m with
 | zero =>
  intro i hm
  obtain rfl : i = n := by omega
  refine Ev.step (fun k => rf05_New.l0.eq_2 _ _ _ _) ?_
  simp only [if_neg (show ¬ ((i : Int) < (i : Int)) by omega)]
  exact Ev.now _
 | succ m ih =>
  intro i hm
  refine Ev.step (fun k => rf05_New.l0.eq_2 _ _ _ _) ?_
  simp only [if_pos (show (i : Int) < (n : Int) by omega), if_pos (show (List.replicate i (1 : Int)).length < 17592186044416 by rw [List.length_replicate]; omega), nx (show i < 4611686018427387904 by omega)]
  rw [← List.replicate_succ']
  exact ih (i + 1) (by omega)
theorem begun_ev : Ev (fun k => rf06_Begun.f k [256]) ([s0R.c], s0R.N, s0R.r, true) := by
 have hr : rd ([256] : List Int) 0 = 256 := rfl
 unfold rf06_Begun.f
 refine Ev.step (fun k => rf06_Begun.l0.eq_2 _ _ _ _ _ _) ?_
 simp only [List.length_cons, List.length_nil, Nat.zero_add, hr, if_pos (show (0 : Int) < ((1 : Nat) : Int) by decide), if_pos (show (0 : Int) ≤ 0 by decide), if_neg (show ¬ ((256 : Int) < 1) by decide), if_neg (show ¬ ((256 : Int) > 256) by decide), if_pos (show 0 < 5864062014805 by decide), List.nil_append]
 refine Ev.bind (a := List.replicate 256 1) (new_l0 256 (Nat.le_refl _) 256 0 (by omega)) ?_
 refine Ev.step (fun k => rf06_Begun.l0.eq_2 _ _ _ _ _ _) ?_
 simp only [List.length_cons, List.length_nil, Nat.zero_add, w01, if_neg (show ¬ ((1 : Int) < ((1 : Nat) : Int)) by decide)]
 exact Ev.now _
theorem encode_ev (l : List Int) (hl : ∀ x ∈ l, In x) (hn : l.length ≤ 65536) : Ev (fun k => rf06_Encode.f k [256] (codesOf l)) (encV l, 0) := by
 unfold rf06_Encode.f
 refine Ev.bind begun_ev ?_
 simp only [if_true]
 exact enc_l0 l hl hn l.length 0 (by omega)
theorem codes_l0 (l : List Int) (hl : ∀ x ∈ l, In x) (hn : l.length ≤ 1099511627776) : ∀ m i : Nat, i + m = l.length → Ev (fun k => rf06_Codes.l0 k l (codesOf (l.take i)) (i : Int)) (codesOf l) := by
 intro m
 induction m with
 | zero =>
  intro i hm
  refine Ev.step (fun k => rf06_Codes.l0.eq_2 _ _ _ _) ?_
  simp only [if_neg (show ¬ ((i : Int) < (l.length : Int)) by omega)]
  rw [List.take_of_length_le (by omega)]
  exact Ev.now _
 | succ m ih =>
  intro i hm
  have hi : i < l.length := by omega
  obtain ⟨x0, x1⟩ := hl _ (List.getElem_mem hi)
  have hr : rd l (i : Int) = l[i] := by rw [rd_at, List.getD_eq_getElem?_getD, List.getElem?_eq_getElem hi]; rfl
  have hsn := codesOf_snoc l i hi
  refine Ev.step (fun k => rf06_Codes.l0.eq_2 _ _ _ _) ?_
  simp only [if_pos (show (i : Int) < (l.length : Int) by omega), if_pos (show (0 : Int) ≤ (i : Int) by omega), if_pos (show (codesOf (l.take i)).length < 8796093022208 by rw [codesOf_len, List.length_take]; omega), hr, nx (show i < 4611686018427387904 by omega)]
  rw [w64 (x := l[i]) (by omega) (by omega), ← hsn]
  exact ih (i + 1) (by omega)
theorem codes_ev (l : List Int) (hl : ∀ x ∈ l, In x) (hn : l.length ≤ 1099511627776) : Ev (fun k => rf06_Codes.f k l) (codesOf l) := codes_l0 l hl hn l.length 0 (by omega)
theorem rput18_ev (n : Nat) (h : n < 16384) : Ev (fun k => rf18_put.f k (n : Int)) (putN n) := Ev.bind (rput_ev n h) (Ev.now _)
theorem rwrap_ev (l : List Int) (hl : ∀ x ∈ l, In x) (hn : l.length ≤ 8000) : Ev (fun k => rf18_Wrap.f k l) (wrapV l, 0) := by
 have he := encV_len hl
 have h1 := putN_len l.length
 have h2 := putN_len (encV l).length
 have p1 : (putN l.length).length ≤ 2 := by rw [h1]; split <;> omega
 have p2 : (putN (encV l).length).length ≤ 2 := by rw [h2]; split <;> omega
 unfold rf18_Wrap.f
 refine Ev.bind (codes_ev l hl (by omega)) ?_
 refine Ev.bind (encode_ev l hl (by omega)) ?_
 simp only [if_true]
 refine Ev.bind (rput18_ev l.length (by omega)) ?_
 refine Ev.bind (rput18_ev (encV l).length (by omega)) ?_
 simp only [if_pos (show (putN l.length).length + (putN (encV l).length).length < 140737488355328 by omega), Option.bind_some, List.length_append, if_pos (show (putN l.length).length + (putN (encV l).length).length + (encV l).length < 140737488355328 by omega)]
 unfold wrapV
 rw [List.append_assoc]
 exact Ev.now _
theorem wrapV_len {l : List Int} (hl : ∀ x ∈ l, In x) : (wrapV l).length ≤ 9 + 2 * l.length := by
 have he := encV_len hl
 have h1 := putN_len l.length
 have h2 := putN_len (encV l).length
 unfold wrapV
 rw [List.length_append, List.length_append, h1, h2]
 split <;> split <;> omega
theorem manyB_snoc : ∀ (l : List (List Int)) (b : List Int), manyB (l ++ [b]) = manyB l ++ wrapV b
 | [], b => by simp [manyB]
 | a :: l, b => by rw [List.cons_append, manyB, manyB_snoc l b, manyB, List.append_assoc]
theorem manyB_len : ∀ (l : List (List Int)), (∀ b ∈ l, Dg b ∧ b.length ≤ 8000) → (manyB l).length ≤ 16009 * l.length
 | [], _ => by simp [manyB]
 | a :: l, h => by
  have h1 := manyB_len l (fun b hb => h b (List.mem_cons_of_mem _ hb))
  have h0 := h a (List.mem_cons_self ..)
  have h2 := wrapV_len (In_dg.2 h0.1)
  rw [manyB, List.length_append, List.length_cons]
  omega
theorem rd4_at (l : List (List Int)) (i : Nat) (h : i < l.length) : rd_L3 l (i : Int) = l[i] := by
 unfold rd_L3
 rw [Int.toNat_natCast, List.getD_eq_getElem?_getD, List.getElem?_eq_getElem h]
 rfl
theorem rmany_l0 (l : List (List Int)) (hl : ∀ b ∈ l, Dg b ∧ b.length ≤ 8000) (hn : l.length ≤ 50) : ∀ m i : Nat, i + m = l.length → Ev (fun k => rf18_Many.l0 k l (putN l.length ++ manyB (l.take i)) (i : Int)) (putN l.length ++ manyB l, 0) := by
 intro m
 induction m with
 | zero =>
  intro i hm
  refine Ev.step (fun k => rf18_Many.l0.eq_2 _ _ _ _) ?_
  simp only [if_neg (show ¬ ((i : Int) < (l.length : Int)) by omega)]
  rw [List.take_of_length_le (by omega)]
  exact Ev.now _
 | succ m ih =>
  intro i hm
  have hi : i < l.length := by omega
  have hb := hl _ (List.getElem_mem hi)
  have hw := wrapV_len (In_dg.2 hb.1)
  have hmt := manyB_len (l.take i) (fun b hb => hl b (List.mem_of_mem_take hb))
  rw [List.length_take] at hmt
  have hp := putN_len l.length
  have hpl : (putN l.length ++ manyB (l.take i)).length + (wrapV l[i]).length < 140737488355328 := by
   rw [List.length_append, hp]; split <;> omega
  have ih := ih (i + 1) (by omega)
  rw [take_snoc l i hi, manyB_snoc, ← List.append_assoc] at ih
  refine Ev.step (fun k => rf18_Many.l0.eq_2 _ _ _ _) ?_
  simp only [if_pos (show (i : Int) < (l.length : Int) by omega), if_pos (show (0 : Int) ≤ (i : Int) by omega), rd4_at l i hi, nx (show i < 4611686018427387904 by omega)]
  refine Ev.bind (rwrap_ev l[i] (In_dg.2 hb.1) hb.2) ?_
  simp only [if_true, if_pos hpl]
  exact ih
theorem rmany_ev (l : List (List Int)) (hl : ∀ b ∈ l, Dg b ∧ b.length ≤ 8000) (hn : l.length ≤ 1000) : Ev (fun k => rf18_Many.f k l) (manyV l) := by
 unfold rf18_Many.f manyV
 by_cases h : 50 < l.length
 ·simp only [if_pos h, if_pos (show (l.length : Int) > 50 by omega)]
  exact Ev.now _
 ·simp only [if_neg h, if_neg (show ¬ ((l.length : Int) > 50) by omega)]
  refine Ev.bind (rput18_ev l.length (by omega)) ?_
  have := rmany_l0 l hl (by omega) l.length 0 (by omega)
  rw [List.take_zero, show manyB [] = [] from rfl, List.append_nil] at this
  exact this
theorem bey_l0 (b N : List Int) (r : Int) (hb : Dg b) (hN : Dg N) (hl : N.length ≤ b.length) (hnl : N.length ≤ 1099511627776) (hr : 0 < r) (hr1 : r < 4294967296) : ∀ (m i : Nat) (d : Int), i + m = N.length → -r ≤ d → d ≤ 2 * r → Ev (fun k => rf06_beyond.l0 k b N r d (i : Int)) (beyG r (N.drop i) (b.drop i) d) := by
 intro m
 induction m with
 | zero =>
  intro i d hm _ _
  refine Ev.step (fun k => rf06_beyond.l0.eq_2 _ _ _ _ _ _) ?_
  simp only [if_neg (show ¬ ((i : Int) < (N.length : Int)) by omega)]
  rw [List.drop_of_length_le (by omega)]
  exact Ev.now _
 | succ m ih =>
  intro i d hm h0 h1
  have hi : i < N.length := by omega
  have hib : i < b.length := by omega
  have b1 := hN _ (List.getElem_mem hi)
  have b2 := hb _ (List.getElem_mem hib)
  have r1 : rd N (i : Int) = N[i] := by rw [rd_at, List.getD_eq_getElem?_getD, List.getElem?_eq_getElem hi]; rfl
  have r2 : rd b (i : Int) = b[i] := by rw [rd_at, List.getD_eq_getElem?_getD, List.getElem?_eq_getElem hib]; rfl
  have d1 : N.drop i = N[i] :: N.drop (i + 1) := List.drop_eq_getElem_cons hi
  have d2 : b.drop i = b[i] :: b.drop (i + 1) := List.drop_eq_getElem_cons hib
  have hj : ∀ (D : Int) (B : Bool), -r ≤ D ∨ B = true → D ≤ 2 * r ∨ B = true → Ev (fun k => rf06_beyond.j1 k b N r D (i : Int) B) (if B = true then (if D < 0 then -1 else r) else beyG r (N.drop (i + 1)) (b.drop (i + 1)) D) := by
   intro D B e0 e1
   refine Ev.step (fun k => rf06_beyond.j1.eq_2 _ _ _ _ _ _ _) ?_
   cases B with
   | true =>
    simp only [if_true]
    by_cases hD : D < 0
    ·simp only [if_pos hD]; exact Ev.now _
    ·simp only [if_neg hD]; exact Ev.now _
   | false =>
    simp only [Bool.false_eq_true, if_false, nx (show i < 4611686018427387904 by omega)]
    exact ih (i + 1) D (by omega) (by simpa using e0) (by simpa using e1)
  refine Ev.step (fun k => rf06_beyond.l0.eq_2 _ _ _ _ _ _) ?_
  simp only [if_pos (show (i : Int) < (N.length : Int) by omega), if_pos (show (0 : Int) ≤ (i : Int) by omega), if_pos (show (i : Int) < (b.length : Int) by omega), r1, r2]
  rw [w64 (x := d * 256) (by omega) (by omega), w64 (x := b[i]) (by omega) (by omega), w64 (x := d * 256 + b[i]) (by omega) (by omega), w64 (x := d * 256 + b[i] - N[i]) (by omega) (by omega), w64 (x := -r) (by omega) (by omega), w64 (x := 2 * r) (by omega) (by omega), d1, d2]
  unfold beyG
  simp only [List.headD_cons, List.tail_cons]
  have fin : ∀ D : Int, Ev (fun k => if D < 0 then (if D < -r then rf06_beyond.j1 k b N r D (i : Int) true else rf06_beyond.j1 k b N r D (i : Int) (decide (D > 2 * r))) else rf06_beyond.j1 k b N r D (i : Int) (decide (D > 2 * r))) (if D < 0 ∧ D < -r ∨ D > 2 * r then (if D < 0 then -1 else r) else beyG r (N.drop (i + 1)) (b.drop (i + 1)) D) := by
   intro D
   by_cases c1 : D < 0
   ·by_cases c2 : D < -r
    ·have := hj D true (.inr rfl) (.inr rfl)
     simp only [if_true, if_pos c1] at this
     simp only [if_pos c1, if_pos c2, if_pos (show (D < 0 ∧ D < -r ∨ D > 2 * r) from .inl ⟨c1, c2⟩)]
     exact this
    ·have := hj D (decide (D > 2 * r)) (.inl (by omega)) (by by_cases h : D > 2 * r; exact .inr (decide_eq_true h); exact .inl (by omega))
     have e : decide (D > 2 * r) = false := decide_eq_false (by omega)
     rw [e] at this
     simp only [Bool.false_eq_true, if_false] at this
     simp only [if_pos c1, if_neg c2, e, if_neg (show ¬ (D < 0 ∧ D < -r ∨ D > 2 * r) by omega)]
     exact this
   ·have := hj D (decide (D > 2 * r)) (.inl (by omega)) (by by_cases h : D > 2 * r; exact .inr (decide_eq_true h); exact .inl (by omega))
    by_cases c2 : D > 2 * r
    ·rw [decide_eq_true c2] at this
     simp only [if_true, if_neg c1] at this
     simp only [if_neg c1, decide_eq_true c2, if_pos (show (D < 0 ∧ D < -r ∨ D > 2 * r) from .inr c2)]
     exact this
    ·rw [decide_eq_false c2] at this
     simp only [Bool.false_eq_true, if_false] at this
     simp only [if_neg c1, decide_eq_false c2, if_neg (show ¬ (D < 0 ∧ D < -r ∨ D > 2 * r) by omega)]
     exact this
  exact fin _
theorem bey_ev (b N : List Int) (r : Int) (hb : Dg b) (hN : Dg N) (hnl : N.length ≤ 1099511627776) (hr : 0 < r) (hr1 : r < 4294967296) : Ev (fun k => rf06_beyond.f k b N r) (beyV b N r) := by
 unfold rf06_beyond.f beyV
 by_cases h : b.length < N.length
 ·simp only [if_pos h, if_pos (show (b.length : Int) < (N.length : Int) by omega)]
  exact Ev.now _
 ·simp only [if_neg h, if_neg (show ¬ ((b.length : Int) < (N.length : Int)) by omega)]
  have := bey_l0 b N r hb hN (by omega) hnl hr hr1 N.length 0 0 (by omega) (by omega) (by omega)
  rw [List.drop_zero, List.drop_zero] at this
  exact this
theorem findC_spec : ∀ (c : List Int) (v : Int), v < sumI c → 0 ≤ v → sumI (c.take (findC c v)) ≤ v ∧ v < sumI (c.take (findC c v + 1))
 | [], v, h, h0 => by simp only [sumI] at h; omega
 | d :: c, v, h, h0 => by
  simp only [sumI] at h
  unfold findC
  split
  ·rename_i hd
   simp only [List.take_zero, List.take_succ_cons, sumI]
   omega
  ·have ih := findC_spec c (v - d) (by omega) (by omega)
   simp only [List.take_succ_cons, sumI] at ih ⊢
   omega
theorem take_mono (c : List Int) (hc : ∀ d ∈ c, 1 ≤ d) (i j : Nat) (h : i ≤ j) : sumI (c.take i) ≤ sumI (c.take j) := by
 have := sumI_take_le (c.take j) (fun d hd => hc d (List.mem_of_mem_take hd)) i
 rwa [List.take_take, Nat.min_eq_left h] at this
theorem find_ev (c : List Int) (v : Int) (h : MOk c) (h0 : 0 ≤ v) (h1 : v < sumI c) : Ev (fun k => rf05_Find.f k c v) ((findC c v : Int), 0) := by
 have hs := h.s
 have hn := h.n
 have hf := findC_lt c v h1 h0
 obtain ⟨s1, s2⟩ := findC_spec c v h1 h0
 have key : ∀ m i : Nat, i + m = findC c v → Ev (fun k => rf05_Find.l0 k c v (i : Int)) ((findC c v : Int), 0) := by
  intro m
  induction m with
  | zero =>
   intro i hm
   obtain rfl : i = findC c v := by omega
   refine Ev.step (fun k => rf05_Find.l0.eq_2 _ _ _ _) ?_
   simp only [if_pos (show (findC c v : Int) < (c.length : Int) by omega), nx (show findC c v < 4611686018427387904 by omega)]
   refine Ev.bind (sum_ev c h.p (by omega) _ (by omega)) ?_
   simp only [if_pos (show v ≥ sumI (c.take (findC c v)) from s1)]
   refine Ev.bind (sum_ev c h.p (by omega) _ (by omega)) ?_
   simp only [if_pos s2]
   exact Ev.now _
  | succ m ih =>
   intro i hm
   have t1 := take_mono c h.p (i + 1) (findC c v) (by omega)
   have t2 := take_mono c h.p i (findC c v) (by omega)
   have ih := ih (i + 1) (by omega)
   refine Ev.step (fun k => rf05_Find.l0.eq_2 _ _ _ _) ?_
   simp only [if_pos (show (i : Int) < (c.length : Int) by omega), nx (show i < 4611686018427387904 by omega)]
   refine Ev.bind (sum_ev c h.p (by omega) _ (by omega)) ?_
   simp only [if_pos (show v ≥ sumI (c.take i) by omega)]
   refine Ev.bind (sum_ev c h.p (by omega) _ (by omega)) ?_
   simp only [if_neg (show ¬ (v < sumI (c.take (i + 1))) by omega)]
   exact ih
 exact key (findC c v) 0 (by omega)
end Go.Proofs.YtbdbobjdlomjnaaGreatDoor.Ec

namespace Go.Proofs.YtbdbobjdlomjnaaGreatDoor.Ec
set_option linter.unusedVariables false
set_option linter.unusedSimpArgs false
open Go Go.RowKit Go.Proofs.YtbdbobjdlomjnaaGreatDoor.P Go.Proofs.YtbdbobjdlomjnaaGreatDoor.X Go.Proofs.YtbdbobjdlomjnaaGreatDoor.Fv Go.Proofs.YtbdbobjdlomjnaaGreatDoorW.PrintWords Go.Proofs.YtbdbobjdlomjnaaGreatDoorW.PrintLast Go.Proofs.YtbdbobjdlomjnaaGreatDoorW.PrintMore
set_option maxHeartbeats 8000000
set_option maxRecDepth 100000
theorem many_calls (w : World) (A : Option Addr) (c : Nat) (l : List (List Int)) (hl : ∀ b ∈ l, Dg b ∧ b.length ≤ 8000) (hn : l.length ≤ 1000) (hr : Kd.C (Kd.slice 5 (Kd.int .u8)) w A l.length l) :
  Calls Tryz.prog 18 #[.slice A l.length c] w fun e w' => ∃ vo, e = .returned (.tuple #[vo, .int .i64 (manyV l).2]) ∧ Kd.R (Kd.int .u8) 5 w' w.heap.size (fun _ => True) vo (manyV l).1 ∧ Below w.heap.size w w' := by
 unfold manyV
 by_cases h50 : 50 < l.length
 ·have b2 : decide ((50 : Int) < (l.length : Int)) = true := decide_eq_true (by omega)
  simp only [if_pos h50]
  go_enter Tryz.func18, Tryz.ntmps18
  go_wp2
  go_ret2
  exact ⟨_, rfl, Kd.R_nil _ _ _ _ _, Below.refl _ w⟩
 ·have b2 : decide ((50 : Int) < (l.length : Int)) = false := decide_eq_false (by omega)
  simp only [if_neg h50]
  have HL := Aside0.mk hl
  obtain ⟨K, hK⟩ := put1_ev l.length (by omega)
  have hput := fun W A0 c0 h1 h2 => vint_Put.calls K A0 c0 [(l.length : Int)] (putN l.length) W h1 h2 (hK K (Nat.le_refl _))
  have hb2 : Below w.heap.size w (w.alloc (.cells #[.int .u64 (l.length : Int)] 80)) := below_alloc (Below.refl _ w) _
  have hg2 := heap_alloc_new w (.cells #[.int .u64 (l.length : Int)] 80)
  have hput2 := hput _ _ 1 (C_lit .u64 _ _ [(l.length : Int)] _ _ _ hg2 rfl (by simp)) (by simp)
  have hpl : (putN l.length).length ≤ 2 := by rw [putN_len]; split <;> omega
  clear hput hg2 hK hl
  generalize putN l.length = pn at *
  go_enter Tryz.func18, Tryz.ntmps18
  go_upto_region 4 with (go_at_call 36; refine hput2.mono ?_; rintro e w3 ⟨vq, rfl, hRq, hb3⟩)
  have hb4 := below_step hb2 hb3
  have hR4 := Kd.R_lower hRq hb2.size
  clear hput2 hb3 hRq hb2
  go_wp2
  go_loopw [4, 19] (fun v4 v wr => ∃ i : Nat, i ≤ l.length ∧ v = .int .i64 i ∧ Kd.R (Kd.int .u8) 5 wr w.heap.size (fun _ => True) v4 (pn ++ manyB (l.take i)) ∧ Below w.heap.size w wr) (fun _ v _ => l.length - (intV v).toNat)
  case atStart => exact ⟨0, by omega, rfl, by rw [List.take_zero, show manyB [] = [] from rfl, List.append_nil]; exact hR4, hb4⟩
  case round =>
   clear hR4 hb4
   obtain ⟨i, hi, rfl, hR, hBr⟩ := hrel
   rcases Nat.lt_or_ge i l.length with hlt | hge
   ·have hii : (i : Int) < (l.length : Int) := by omega
    obtain ⟨ad, Ax, cx, eA, y0, hcx, hCx⟩ := at_L3 (Kd.C_below hr hBr) (i : Int) (by omega) hii
    subst eA
    rw [rd4_at l i hlt] at y0 hcx hCx
    rw [Int.toNat_natCast] at y0
    have hb := HL.out _ (List.getElem_mem hlt)
    have hsn : pn ++ manyB (l.take (i + 1)) = pn ++ manyB (l.take i) ++ wrapV l[i] := by rw [take_snoc l i hlt, manyB_snoc, List.append_assoc]
    have HSN := Aside0.mk hsn
    have hwl := wrapV_len (In_dg.2 hb.1)
    have hml := manyB_len (l.take i) (fun b hb => HL.out b (List.mem_of_mem_take hb))
    rw [List.length_take] at hml
    have hlk : ((pn ++ manyB (l.take i)).length + (wrapV l[i]).length) * 1 ≤ 140737488355328 := by rw [List.length_append]; omega
    have hwr := wrap_calls wr Ax cx l[i] (In_dg.2 hb.1) hb.2 hCx
    clear hsn hwl hml hb
    generalize l[i] = x at *
    generalize pn ++ manyB (l.take i) = out at *
    generalize wrapV x = wx at *
    go_upto_region 8 with (go_at_call 25; refine hwr.mono ?_; rintro e w5 ⟨vx, rfl, hRx, hb5⟩)
    obtain ⟨Ap, cp, rfl⟩ := Kd.R_slice hRx
    have hR5 := Kd.R_below hR hb5
    have hB5 := below_step hBr hb5
    have hC5 := (Kd.R_reads' hRx).2.2
    have hplp := Kd.R_lt hRx
    clear hwr hR hb5 hBr hRx
    go_wp2_with (((with_reducible refine gate_builtin (b := .append) (xs := #[.tmp 31, .tmp 32]) rfl ?_); at_builtin; refine Kd.R_append_rows (Kd.int .u8) (w0 := w) w.heap.size rfl (.tmp 31) (.tmp 32) 26 5 (.int .u8 0) 1 rfl Tryz.underlying26 infoU rfl (by decide) (by omega) _ out wx _ _ _ (fun _ => True) (fun _ => False) rfl rfl ?aO ?aR (fun _ _ h => h) (fun _ h => h.elim) ?aF ?aB ?aS ?aL ?_; (case aO => exact hR5); (case aR => exact hC5); (case aF => exact fun _ _ => trivial); (case aB => exact hB5); (case aS => exact hB5.size); (case aL => exact hlk); intro v4 w4 hR4 hb4 hg4 hat4; rw [← HSN.out] at hR4))
    go_roundw
    case rel => exact ⟨i + 1, by omega, rfl, hR4, hb4⟩
    case measure => simp [intV]; omega
   ·obtain rfl : i = l.length := by omega
    rw [List.take_length] at hR
    go_wp2
    go_ret2
    exact ⟨_, rfl, hR, hBr⟩
end Go.Proofs.YtbdbobjdlomjnaaGreatDoor.Ec

namespace Go.Proofs.YtbdbobjdlomjnaaGreatDoor.P
open Go.RowKit Go.Proofs.YtbdbobjdlomjnaaGreatDoorW.PrintWords Go.Proofs.YtbdbobjdlomjnaaGreatDoorW.PrintLast Go.Proofs.YtbdbobjdlomjnaaGreatDoorW.PrintMore Go.Proofs.YtbdbobjdlomjnaaGreatDoor.X
attribute [local go_sem] max2_int min2_int max_two min_two max_three min_three max_four min_four add64_0 add64_1 add64
set_option linter.unusedVariables false
set_option linter.unusedSimpArgs false
def parts_Many.f (l0 : List (List Int)) : Option (List Int × Int) := if (∀ b ∈ l0, (∀ x ∈ b, 0 ≤ x ∧ x ≤ 255) ∧ b.length ≤ 8000) ∧ l0.length ≤ 1000 then (some ((Ec.manyV l0).1, (Ec.manyV l0).2)) else (none)
set_option maxHeartbeats 8000000 in
set_option maxRecDepth 100000 in
theorem parts_Many.calls (A0 : Option Addr) (c0 : Nat) (l0 : List (List Int)) (r1 : List Int) (r2 : Int) (w : World) (hr0 : Kd.C (Kd.slice 5 (Kd.int .u8)) w A0 l0.length l0) (hc0 : l0.length ≤ c0) (h : parts_Many.f l0 = some (r1, r2)) :
  Calls Tryz.prog 18 #[.slice A0 l0.length c0] w fun e w' => ∃ v0_ : Value, e = .returned (.tuple #[v0_, .int .i64 r2]) ∧ Kd.R (Kd.int .u8) 5 w' w.heap.size (fun _ => True) v0_ r1 ∧ Below w.heap.size w w' := by
 unfold parts_Many.f at h
 by_cases hl : (∀ b ∈ l0, (∀ x ∈ b, 0 ≤ x ∧ x ≤ 255) ∧ b.length ≤ 8000) ∧ l0.length ≤ 1000
 ·rw [if_pos hl] at h
  simp only [Option.some.injEq, Prod.mk.injEq] at h
  obtain ⟨rfl, rfl⟩ := h
  exact Ec.many_calls w A0 c0 l0 hl.1 hl.2 hr0
 ·rw [if_neg hl] at h; cases h
end Go.Proofs.YtbdbobjdlomjnaaGreatDoor.P
