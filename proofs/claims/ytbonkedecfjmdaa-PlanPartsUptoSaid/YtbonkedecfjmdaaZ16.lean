/- Written for this claim by a program of this session (a turned copy of the print): Go functions as Lean functions, and that the Go code comes to just these answers; or a statement proved out of them. No condition. Digits to the base 65536, words, and how numbers stand: plain arithmetic. Wide numbers: what the program's own functions answer, for any words. Points of the plane: which are points, to which side one turns, whether one lies between: what the program's functions answer. Two segments: what they have in common, plainly; what the program's functions along a line answer. -/
import Derived.Test.YtbonkedecfjmdaaZ2
import Derived.Test.YtbonkedecfjmdaaZ15
import Derived.Laws.BitsLemmas
import Derived.Test.YtbonkedecfjmdaaZ13
import Derived.Test.YtbonkedecfjmdaaZ14

namespace Go.Proofs.Ytbonkedecfjmdaa.P
open Go.RowKit Go.Proofs.YtbonkedecfjmdaaW.PrintWords Go.Proofs.YtbonkedecfjmdaaW.PrintLast Go.Proofs.YtbonkedecfjmdaaW.PrintMore Go.Proofs.Ytbonkedecfjmdaa.X
attribute [local go_sem] max2_int min2_int max_two min_two max_three min_three max_four min_four add64_0 add64_1 add64
set_option linter.unusedVariables false
set_option linter.unusedSimpArgs false
def geom_turn.f (k : Nat) (a0_0 : Int) (a0_1 : Int) (a0_2 : Int) (a1_0 : Int) (a1_1 : Int) (a1_2 : Int) (a2_0 : Int) (a2_1 : Int) (a2_2 : Int) : Option (Int) := (wide_Dot.f k (([wrap64 (a1_0 - a0_0), wrap64 (a2_1 - a0_1), wrap64 (a0_1 - a1_1), wrap64 (a2_0 - a0_0)] : List Int))).bind fun bt582 => ((wide_Sign.f bt582.1 bt582.2.1).bind fun t586 => (some t586))
theorem geom_turn.mono : ∀ a0 a1 a2 a3 a4 a5 a6 a7 a8 k, LeO (geom_turn.f k a0 a1 a2 a3 a4 a5 a6 a7 a8) (geom_turn.f (k + 1) a0 a1 a2 a3 a4 a5 a6 a7 a8) := by
 intro a0 a1 a2 a3 a4 a5 a6 a7 a8 k
 unfold geom_turn.f
 repeat' first
   | (with_reducible exact wide_Dot.mono _ _)
   | (with_reducible exact LeO.refl _)
   | (with_reducible exact LeO.none _)
   | (with_reducible refine LeO.ite ?_ ?_)
   | (with_reducible refine LeO.bind ?_ (fun _ => ?_))
   | exact wide_Dot.mono _ _
   | exact LeO.none _
   | refine LeO.ite ?_ ?_
   | refine LeO.bind ?_ (fun _ => ?_)
set_option maxHeartbeats 8000000 in
set_option maxRecDepth 100000 in
theorem geom_turn.calls (k : Nat) (a0_0 : Int) (a0_1 : Int) (a0_2 : Int) (a1_0 : Int) (a1_1 : Int) (a1_2 : Int) (a2_0 : Int) (a2_1 : Int) (a2_2 : Int) (r : Int) (w : World) (h : geom_turn.f k a0_0 a0_1 a0_2 a1_0 a1_1 a1_2 a2_0 a2_1 a2_2 = some r) :
  Calls Try.prog 60 #[.agg #[.int .i64 a0_0, .int .i64 a0_1, .int .i64 a0_2], .agg #[.int .i64 a1_0, .int .i64 a1_1, .int .i64 a1_2], .agg #[.int .i64 a2_0, .int .i64 a2_1, .int .i64 a2_2]] w fun e w' => e = .returned (.int .i64 r) ∧ Below w.heap.size w w' := by
 have hu27 := Try.underlying27
 have hu50 := Try.underlying50
 have HB := AM (Below.refl w.heap.size w)
 have H : ((wide_Dot.f k (([wrap64 (a1_0 - a0_0), wrap64 (a2_1 - a0_1), wrap64 (a0_1 - a1_1), wrap64 (a2_0 - a0_0)] : List Int))).bind fun bt582 => ((wide_Sign.f bt582.1 bt582.2.1).bind fun t586 => (some t586))) = some r := h
 clear h
 obtain ⟨y579, hy579⟩ : ∃ y_ : List Int, y_ = (([wrap64 (a1_0 - a0_0), wrap64 (a2_1 - a0_1), wrap64 (a0_1 - a1_1), wrap64 (a2_0 - a0_0)] : List Int)) := ⟨_, rfl⟩
 replace H : ((wide_Dot.f k y579).bind fun bt582 => ((wide_Sign.f bt582.1 bt582.2.1).bind fun t586 => (some t586))) = some r := by first | (rw [hy579]; with_reducible exact H) | (have H2_ := (Option.bind_some _ _).symm.trans H; rw [hy579]; with_reducible exact H2_) | (have H2_ := (Option.bind_some _ _).symm.trans H; with_reducible exact H2_) | with_reducible exact H | (rw [hy579]; exact H) | exact H
 have Ny579 := AM hy579
 clear hy579
 obtain ⟨⟨t582, t583, t584⟩, A4, H⟩ := bS H
 try dsimp only at H
 obtain ⟨t586, A5, H⟩ := bS H
 obtain rfl := Option.some.inj H
 go_enter Try.func60, Try.ntmps60
 go_wp2_with (first | ((with_reducible refine gate_dst (N := 3) rfl ?_); refine bE 3 #[.int .i64 a0_0, .int .i64 a0_1, .int .i64 a0_2] 27 ?_; intro gb576 hg w6 hbox hb; have BK576 := AM hbox; have GW576 := kG HB hg; replace HB := kH HB hb; have GE576 := GW576; clear hb hbox hg) | ((with_reducible refine gate_dst (N := 4) rfl ?_); refine bE 4 #[.int .i64 a1_0, .int .i64 a1_1, .int .i64 a1_2] 27 ?_; intro gb577 hg w7 hbox hb; have BK577 := AM hbox; have GW577 := kG HB hg; replace HB := kH HB hb; have GE577 := GW577; have NB576_577 := kN BK576 hg; have NB577_576 := kM BK576 hg; replace BK576 := kB BK576 hb; clear hb hbox hg) | ((with_reducible refine gate_dst (N := 5) rfl ?_); refine bE 5 #[.int .i64 a2_0, .int .i64 a2_1, .int .i64 a2_2] 27 ?_; intro gb578 hg w8 hbox hb; have BK578 := AM hbox; have GW578 := kG HB hg; replace HB := kH HB hb; have GE578 := GW578; have NB576_578 := kN BK576 hg; have NB578_576 := kM BK576 hg; replace BK576 := kB BK576 hb; have NB577_578 := kN BK577 hg; have NB578_577 := kM BK577 hg; replace BK577 := kB BK577 hb; clear hb hbox hg; have hnb9 := NB577_576.out; have hnc9 := NB576_577.out; have hnb10 := NB577_578.out; have hnc10 := NB578_577.out; obtain ⟨hcz11_0, hcz11_1, hcz11_2, hfz11_0, hfz11_1, hfz11_2⟩ := c3 BK577; have hnb12 := NB576_578.out; have hnc12 := NB578_576.out; obtain ⟨hcz13_0, hcz13_1, hcz13_2, hfz13_0, hfz13_1, hfz13_2⟩ := c3 BK576; obtain ⟨hcz14_0, hcz14_1, hcz14_2, hfz14_0, hfz14_1, hfz14_2⟩ := c3 BK578) | ((with_reducible refine gate_dst (N := 30) rfl ?_); refine Kd.R_lit (Kd.int .i64) _ 3 ?hg (N := 30) ?hd (xs := ([wrap64 (a1_0 - a0_0), wrap64 (a2_1 - a0_1), wrap64 (a0_1 - a1_1), wrap64 (a2_0 - a0_0)] : List Int)) (inner := [.int .i64 (wrap64 (a1_0 - a0_0)), .int .i64 (wrap64 (a2_1 - a0_1)), .int .i64 (wrap64 (a0_1 - a1_1)), .int .i64 (wrap64 (a2_0 - a0_0))]) (ok := fun _ => True) (okp := fun _ => True) ?hr ?hp (fun _ hk => hk) trivial (Below.refl _ _) (Nat.le_refl _) (by simp) ?_; (case hd => rfl); (case hg => rfl); (case hr => first | (go_simp; done) | (go_simp; rfl)); (case hp => exact (Reps.one (show Kd.M (Kd.int .i64) _ _ _ (wrap64 (a1_0 - a0_0)) [.int .i64 (wrap64 (a1_0 - a0_0))] from rfl) (Reps.one (show Kd.M (Kd.int .i64) _ _ _ (wrap64 (a2_1 - a0_1)) [.int .i64 (wrap64 (a2_1 - a0_1))] from rfl) (Reps.one (show Kd.M (Kd.int .i64) _ _ _ (wrap64 (a0_1 - a1_1)) [.int .i64 (wrap64 (a0_1 - a1_1))] from rfl) (Reps.one (show Kd.M (Kd.int .i64) _ _ _ (wrap64 (a2_0 - a0_0)) [.int .i64 (wrap64 (a2_0 - a0_0))] from rfl) (Reps.none _ _)))))); intro v580 w15 ho16 hb hg_ hnew_; clear hg_ hnew_; (first | rw [← Ny579.out] at ho16 | (simp only [Int.reduceToNat] at ho16; rw [← Ny579.out] at ho16)); have HO581 := AM (Kd.R_lower ho16 (below_size (bH HB))); replace BK576 := kB BK576 hb; replace BK577 := kB BK577 hb; replace BK578 := kB BK578 hb; replace HB := kH HB hb; clear hb ho16; obtain ⟨Ao17, co17, eo17⟩ := Kd.R_slice HO581.out; subst eo17) | ((with_reducible refine gate_callee (f := 69) rfl ?_); refine gL (some 31) Try.func69 #[.slice Ao17 y579.length co17] ?_; (with_reducible refine (wide_Dot.calls k _ _ y579 t582 t583 t584 _ ?side1 ?side2 A4.out).mono ?_); (case side1 => exact sR HO581); (case side2 => exact (Kd.R_reads' HO581.out).2.1); rintro e w18 ⟨rfl, hb⟩; refine ⟨_, rfl, ?_⟩; replace HO581 := kR HO581 hb; replace BK576 := kB BK576 hb; replace BK577 := kB BK577 hb; replace BK578 := kB BK578 hb; replace HB := kH HB hb; (try clear hb); (try clear hb2); (try clear hk); (try clear hi)) | ((with_reducible refine gate_dst (N := 7) rfl ?_); refine bE 7 #[.int .i64 0, .int .u64 0] 50 ?_; intro gb585 hg w19 hbox hb; replace HO581 := kR HO581 hb; have BK585 := AM hbox; have GW585 := kG HB hg; replace HB := kH HB hb; have GE585 := GW585; have NB576_585 := kN BK576 hg; have NB585_576 := kM BK576 hg; replace BK576 := kB BK576 hb; have NB577_585 := kN BK577 hg; have NB585_577 := kM BK577 hg; replace BK577 := kB BK577 hb; have NB578_585 := kN BK578 hg; have NB585_578 := kM BK578 hg; replace BK578 := kB BK578 hb; clear hb hbox hg; have hnb20 := NB585_576.out; have hnc20 := NB576_585.out; have hnb21 := NB585_577.out; have hnc21 := NB577_585.out; have hnb22 := NB585_578.out; have hnc22 := NB578_585.out; obtain ⟨hcz23_0, hcz23_1, hfz23_0, hfz23_1⟩ := c2 BK585) | ((with_reducible refine gate_callee (f := 24) rfl ?_); refine gL (some 35) Try.func24 #[.agg #[.int .i64 t582, .int .u64 t583]] ?_; (with_reducible refine (wide_Sign.calls t582 t583 t586 _ A5.out).mono ?_); rintro e w24 ⟨rfl, hb⟩; refine ⟨_, rfl, ?_⟩; replace HO581 := AM (Kd.R_below (by (with_reducible repeat (first | apply Kd.R_alloc | apply Kd.R_drewN | apply Kd.R_drew)); exact (Kd.R_mono (Kd.R_far (p := ⟨gb585, 1, none⟩) (Kd.R_far (p := ⟨gb585, 0, none⟩) (Kd.R_types HO581.out BK585.out (by decide)) (fun _ hk => hk.2) (.int .i64 t582)) (fun _ hk => hk.2) (.int .u64 t583)) (fun _ h_ => h_.1))) hb); replace BK576 := kB BK576 hb; replace BK577 := kB BK577 hb; replace BK578 := kB BK578 hb; replace BK585 := AM (blk_below (g := gb585) (o := .cells #[.int .i64 t582, .int .u64 t583] 50 (0, 0)) (by (with_reducible repeat (first | refine blk_drewN ?_ _ | refine blk_drew ?_ | refine blk_alloc ?_ _)); refine blk_put (cs := #[.int .i64 t582, .int .u64 0]) ?_ 1 _ rfl; (with_reducible repeat (first | refine blk_drewN ?_ _ | refine blk_drew ?_ | refine blk_alloc ?_ _)); refine blk_put (cs := #[.int .i64 0, .int .u64 0]) ?_ 0 _ rfl; (with_reducible repeat (first | refine blk_drewN ?_ _ | refine blk_drew ?_ | refine blk_alloc ?_ _)); exact BK585.out) hb); replace HB := kH HB hb; (try clear hb); (try clear hb2); (try clear hk); (try clear hi)))
 go_ret
 exact ⟨rE, bH HB⟩

def wide_Of.f (a0 : Int) : Option (Int × Int) := some (a0 / 9223372036854775808, IntKind.u64.wrap (a0))
set_option maxHeartbeats 8000000 in
set_option maxRecDepth 100000 in
theorem wide_Of.calls (a0 : Int) (r1 : Int) (r2 : Int) (w : World) (h : wide_Of.f a0 = some (r1, r2)) :
  Calls Try.prog 26 #[.int .i64 a0] w fun e w' => e = .returned (.agg #[.int .i64 r1, .int .u64 r2]) ∧ Below w.heap.size w w' := by
 have hu50 := Try.underlying50
 have HB := AM (Below.refl w.heap.size w)
 have H : (some (a0 / 9223372036854775808, IntKind.u64.wrap (a0))) = some (r1, r2) := h
 clear h
 simp only [Option.some.injEq, Prod.mk.injEq] at H
 obtain ⟨rfl, rfl⟩ := H
 go_enter Try.func26, Try.ntmps26
 go_wp2_with (first | ((with_reducible refine gate_dst (N := 2) rfl ?_); refine bE 2 #[.int .i64 0, .int .u64 0] 50 ?_; intro gb835 hg w2 hbox hb; have BK835 := AM hbox; have GW835 := kG HB hg; replace HB := kH HB hb; have GE835 := GW835; clear hb hbox hg; obtain ⟨hcz3_0, hcz3_1, hfz3_0, hfz3_1⟩ := c2 BK835))
 refine bodyPost_ret (results_cell_row rfl _ _ gb835 50 #[.int .i64 (a0 / 9223372036854775808), .int .u64 (IntKind.u64.wrap (a0))] (0, 0) _ rfl (by (with_reducible repeat (first | refine blk_drewN ?_ _ | refine blk_drew ?_ | refine blk_alloc ?_ _)); refine blk_put (cs := #[.int .i64 (a0 / 9223372036854775808), .int .u64 0]) ?_ 1 _ rfl; (with_reducible repeat (first | refine blk_drewN ?_ _ | refine blk_drew ?_ | refine blk_alloc ?_ _)); refine blk_put (cs := #[.int .i64 0, .int .u64 0]) ?_ 0 _ rfl; (with_reducible repeat (first | refine blk_drewN ?_ _ | refine blk_drew ?_ | refine blk_alloc ?_ _)); exact BK835.out) Try.underlying50 rfl (by kernel_rfl)) rfl ?_
 exact ⟨rE, bH HB⟩
end Go.Proofs.Ytbonkedecfjmdaa.P

namespace Go.Proofs.Ytbonkedecfjmdaa.WL
set_option linter.unusedVariables false
set_option linter.unusedSimpArgs false
open Go.RowKit Go.Proofs.Ytbonkedecfjmdaa.P Go.Proofs.Ytbonkedecfjmdaa.X Go.Proofs.YtbonkedecfjmdaaW.PrintWords Go.Proofs.YtbonkedecfjmdaaW.PrintLast Go.Proofs.YtbonkedecfjmdaaW.PrintMore
theorem u64w (x : Int) : IntKind.u64.wrap x = x % 18446744073709551616 := by
 unfold IntKind.wrap; rfl
theorem w64_id {x : Int} (h : -9223372036854775808 ≤ x) (h' : x ≤ 9223372036854775807) : wrap64 x = x := by
 unfold wrap64; omega
theorem tmod65536 (x : Int) : Int.tmod x 65536 = if 0 ≤ x then x % 65536 else -((-x) % 65536) := by
 split
 ·rename_i h; exact Int.tmod_eq_emod_of_nonneg h
 ·rename_i h
  have h' : 0 ≤ -x := by omega
  rw [← Int.tmod_eq_emod_of_nonneg h', Int.neg_tmod, Int.neg_neg]
theorem tdiv_ex (q : Int) : Int.tdiv (65536 * q) 65536 = q := Int.mul_tdiv_cancel_left q (by decide)
theorem tdiv_nn {x : Int} (h : 0 ≤ x) : Int.tdiv x 65536 = x / 65536 := Int.tdiv_eq_ediv_of_nonneg h
theorem tmod_nn {x : Int} (h : 0 ≤ x) : Int.tmod x 65536 = x % 65536 := Int.tmod_eq_emod_of_nonneg h
def digs : Nat → Int → List Int
 | 0, _ => []
 | n + 1, x => (x % 65536) :: digs n (x / 65536)
def hor : List Int → Int
 | [] => 0
 | d :: l => d + 65536 * hor l
abbrev dig (x : Int) : List Int := digs 8 x
theorem digs_len : ∀ n x, (digs n x).length = n
 | 0, _ => rfl
 | n + 1, x => by simp [digs, digs_len n]
theorem digs_range : ∀ n x d, d ∈ digs n x → 0 ≤ d ∧ d < 65536
 | 0, _, d, h => by simp [digs] at h
 | n + 1, x, d, h => by
  simp only [digs, List.mem_cons] at h
  rcases h with rfl | h
  ·omega
  ·exact digs_range n _ d h
theorem hor_digs : ∀ n x, ∃ q : Int, hor (digs n x) = x - q * 65536 ^ n
 | 0, x => ⟨x, by simp [digs, hor]⟩
 | n + 1, x => by
  obtain ⟨q, hq⟩ := hor_digs n (x / 65536)
  refine ⟨q, ?_⟩
  have e : q * (65536 : Int) ^ (n + 1) = 65536 * (q * 65536 ^ n) := by
   rw [Int.pow_succ, ← Int.mul_assoc, Int.mul_comm]
  rw [e]
  simp only [digs, hor, hq]
  generalize q * (65536 : Int) ^ n = P
  omega
theorem digs_add : ∀ n (x q : Int), digs n (x + q * 65536 ^ n) = digs n x
 | 0, _, _ => rfl
 | n + 1, x, q => by
  have e : q * (65536 : Int) ^ (n + 1) = 65536 * (q * 65536 ^ n) := by
   rw [Int.pow_succ, ← Int.mul_assoc, Int.mul_comm]
  rw [e]
  have ih := digs_add n (x / 65536) q
  generalize q * (65536 : Int) ^ n = P at ih ⊢
  simp only [digs]
  rw [show (x + 65536 * P) % 65536 = x % 65536 by omega, show (x + 65536 * P) / 65536 = x / 65536 + P by omega, ih]
theorem digs_congr {n : Nat} {x y : Int} (h : ∃ q : Int, x = y + q * 65536 ^ n) : digs n x = digs n y := by
 obtain ⟨q, rfl⟩ := h; exact digs_add n y q
theorem dig_congr {x y : Int} (h : (x - y) % 340282366920938463463374607431768211456 = 0) : dig x = dig y :=
 digs_congr ⟨(x - y) / 340282366920938463463374607431768211456, by
  have : (65536 : Int) ^ 8 = 340282366920938463463374607431768211456 := by decide
  rw [this]; omega⟩
theorem dig_hor (x : Int) : dig (hor (dig x)) = dig x := by
 obtain ⟨q, hq⟩ := hor_digs 8 x
 exact digs_congr ⟨-q, by rw [show dig x = digs 8 x from rfl, hq]; generalize (65536 : Int) ^ 8 = M; rw [Int.neg_mul]; omega⟩
theorem digs4_8 (hi lo : Int) (h0 : 0 ≤ lo) (h1 : lo < 18446744073709551616) : digs 4 lo ++ (digs 8 hi).take 4 = dig (hi * 18446744073709551616 + lo) := by
 simp only [digs, List.take_succ_cons, List.take_zero, List.cons_append, List.nil_append]
 congr 1
 ·omega
 ·congr 1
  ·omega
  ·congr 1
   ·omega
   ·congr 1
    ·omega
    ·congr 1
     ·omega
     ·congr 1
      ·omega
      ·congr 1
       ·omega
       ·congr 1; omega
theorem rd_eq (l : List Int) (i : Int) (h0 : i.toNat < l.length) : rd l i = l[i.toNat] := by
 unfold rd; rw [List.getD_eq_getElem?_getD, List.getElem?_eq_getElem h0]; rfl
theorem hor_range : ∀ l : List Int, (∀ d ∈ l, 0 ≤ d ∧ d < 65536) → 0 ≤ hor l ∧ hor l < 65536 ^ l.length
 | [], _ => by simp [hor]
 | d :: l, h => by
  have h1 := h d (by simp)
  have h2 := hor_range l fun x hx => h x (by simp [hx])
  simp only [hor, List.length_cons, Int.pow_succ]
  generalize (65536 : Int) ^ l.length = P at h2 ⊢
  omega
theorem hor_take : ∀ (l : List Int) (n : Nat) (h : n < l.length), hor (l.take (n + 1)) = hor (l.take n) + l[n] * 65536 ^ n
 | [], n, h => by simp at h
 | d :: l, 0, _ => by simp [hor]
 | d :: l, n + 1, h => by
  have h' : n < l.length := by simpa using h
  have ih := hor_take l n h'
  simp only [List.take_succ_cons, hor, List.getElem_cons_succ]
  rw [ih, Int.pow_succ]
  rw [Int.mul_add, show l[n] * ((65536 : Int) ^ n * 65536) = 65536 * (l[n] * 65536 ^ n) by rw [← Int.mul_assoc, Int.mul_comm]]
  omega
theorem hor_digs_mod (n : Nat) (x : Int) : hor (digs n x) = x % 65536 ^ n := by
 obtain ⟨q, hq⟩ := hor_digs n x
 have hr := hor_range (digs n x) (digs_range n x)
 rw [digs_len] at hr
 have e : x = hor (digs n x) + q * 65536 ^ n := by omega
 generalize hor (digs n x) = H at *
 rw [e, Int.add_mul_emod_self_right]
 exact (Int.emod_eq_of_lt hr.1 hr.2).symm
def cmp3 (a b : Int) : Int := if a < b then -1 else if b < a then 1 else 0
def off (x : Int) : Int := (x + 170141183460469231731687303715884105728) % 340282366920938463463374607431768211456
theorem top_turned (x : Int) : hor (digs 7 x) + ((x / 65536 / 65536 / 65536 / 65536 / 65536 / 65536 / 65536 % 65536 + 32768) % 65536) * 65536 ^ 7 = off x := by
 rw [hor_digs_mod]
 have : (65536 : Int) ^ 7 = 5192296858534827628530496329220096 := by decide
 rw [this]; unfold off; omega
theorem cmp3_eq0 (a b : Int) : cmp3 a b = 0 ↔ a = b := by unfold cmp3; split <;> (try split) <;> omega
theorem off_eq {x y : Int} : off x = off y ↔ (x - y) % 340282366920938463463374607431768211456 = 0 := by unfold off; omega
theorem w64_succ (n : Nat) (h : n < 9223372036854775807) : wrap64 ((n : Int) + 1) = ((n + 1 : Nat) : Int) := by unfold wrap64; omega
theorem rd_nat (l : List Int) (i : Nat) (h : i < l.length) : rd l (i : Int) = l[i] := rd_eq l i (by simpa using h)
theorem hor_zip : ∀ a b : List Int, a.length = b.length → hor (List.zipWith (· + ·) a b) = hor a + hor b
 | [], [], _ => rfl
 | x :: a, y :: b, h => by
  simp only [List.zipWith, hor, hor_zip a b (by simpa using h)]; omega
 | [], _ :: _, h => by simp at h
 | _ :: _, [], h => by simp at h
theorem hor_set : ∀ (l : List Int) (n : Nat) (v : Int) (h : n < l.length), hor (l.set n v) = hor l + (v - l[n]) * 65536 ^ n
 | [], n, v, h => by simp at h
 | d :: l, 0, v, _ => by simp [hor]; omega
 | d :: l, n + 1, v, h => by
  have h' : n < l.length := by simpa using h
  have ih := hor_set l n v h'
  simp only [List.set_cons_succ, hor, List.getElem_cons_succ, ih, Int.pow_succ]
  grind
theorem ring1 (h x p y T : Int) : h + x * p * y + T = h + T + x * y * p := by grind
theorem ring2 (h D x y P H T : Int) : h + (D + x * y - D) * P + x * (P * 65536) * H + T = h + x * P * (y + 65536 * H) + T := by grind
theorem ring3 (h x P B H : Int) : h + x * P * B + P * 65536 * H * B = h + P * (x + 65536 * H) * B := by grind
theorem mulb {x y : Int} (h1 : 0 ≤ x) (h2 : x < 65536) (h3 : 0 ≤ y) (h4 : y < 65536) : 0 ≤ x * y ∧ x * y ≤ 4294836225 := by
 have := Int.mul_le_mul (show x ≤ 65535 by omega) (show y ≤ 65535 by omega) h3 (by decide)
 exact ⟨Int.mul_nonneg h1 h3, this⟩
theorem digs_neg : ∀ (n : Nat) (x : Int), (digs n x).map (fun d => 65535 - d) = digs n (-x - 1)
 | 0, _ => rfl
 | n + 1, x => by
  simp only [digs, List.map_cons, digs_neg n]
  rw [show 65535 - x % 65536 = (-x - 1) % 65536 by omega, show -(x / 65536) - 1 = (-x - 1) / 65536 by omega]
def dotS : List Int → Int
 | a :: b :: l => a * b + dotS l
 | _ => 0

def hiw (x : Int) : Int := (x / 18446744073709551616 + 9223372036854775808) % 18446744073709551616 - 9223372036854775808
def low (x : Int) : Int := x % 18446744073709551616
theorem hiw_range (x : Int) : -9223372036854775808 ≤ hiw x ∧ hiw x ≤ 9223372036854775807 := by unfold hiw; omega
theorem low_range (x : Int) : 0 ≤ low x ∧ low x < 18446744073709551616 := by unfold low; omega
theorem hiw_of {h l : Int} (h1 : -9223372036854775808 ≤ h) (h2 : h ≤ 9223372036854775807) (h3 : 0 ≤ l) (h4 : l < 18446744073709551616) : hiw (h * 18446744073709551616 + l) = h := by unfold hiw; omega
theorem low_of {h l : Int} (h3 : 0 ≤ l) (h4 : l < 18446744073709551616) : low (h * 18446744073709551616 + l) = l := by unfold low; omega
theorem val_mod (x : Int) : (x - (hiw x * 18446744073709551616 + low x)) % 340282366920938463463374607431768211456 = 0 := by unfold hiw low; omega
theorem val_mod' (x : Int) : ((hiw x * 18446744073709551616 + low x) - x) % 340282366920938463463374607431768211456 = 0 := by unfold hiw low; omega
theorem hl_congr {x y : Int} (h : (x - y) % 340282366920938463463374607431768211456 = 0) : hiw x = hiw y ∧ low x = low y := by
 constructor
 ·unfold hiw; omega
 ·unfold low; omega
theorem hl_eq {x y : Int} : (hiw x == hiw y && (low x == low y)) = true ↔ (x - y) % 340282366920938463463374607431768211456 = 0 := by
 simp only [Bool.and_eq_true, beq_iff_eq]
 unfold hiw low; omega
theorem wraps_u64 (n : Int) (h₀ : 0 ≤ n) (h₁ : n < 2 ^ 64) : IntKind.u64.wrap n = n := by rw [u64w]; omega
theorem and32 {x : Int} (h0 : 0 ≤ x) (h1 : x < 18446744073709551616) : Go.bits .and .u64 x 4294967295 = x % 4294967296 :=
 bits_mask .u64 64 (by decide) wraps_u64 32 (by decide) x h0 h1
theorem mul64_arith (P Q R S : Int) :
  let t := (Q + P / 4294967296)
  let w := (t % 4294967296 + R)
  (S + t / 4294967296 + w / 4294967296) = (S * 18446744073709551616 + (Q + R) * 4294967296 + P) / 18446744073709551616 := by
 intro t w
 omega
theorem mulb32 {x y : Int} (h1 : 0 ≤ x) (h2 : x < 4294967296) (h3 : 0 ≤ y) (h4 : y < 4294967296) : 0 ≤ x * y ∧ x * y ≤ 18446744065119617025 := by
 have := Int.mul_le_mul (show x ≤ 4294967295 by omega) (show y ≤ 4294967295 by omega) h3 (by decide)
 exact ⟨Int.mul_nonneg h1 h3, this⟩
theorem split4 (a1 a0 b1 b0 : Int) : (a1 * 4294967296 + a0) * (b1 * 4294967296 + b0) = a1 * b1 * 18446744073709551616 + (a1 * b0 + a0 * b1) * 4294967296 + a0 * b0 := by grind
theorem Mul64_eq {a b : Int} (ha : 0 ≤ a) (ha' : a < 18446744073709551616) (hb : 0 ≤ b) (hb' : b < 18446744073709551616) :
  bits_Mul64.f a b = some (a * b / 18446744073709551616, a * b % 18446744073709551616) := by
 unfold bits_Mul64.f
 rw [and32 ha ha', and32 hb hb']
 have hprod : a * b = (a / 4294967296) * (b / 4294967296) * 18446744073709551616 + ((a / 4294967296) * (b % 4294967296) + (a % 4294967296) * (b / 4294967296)) * 4294967296 + (a % 4294967296) * (b % 4294967296) := by
  rw [← split4]
  congr 1 <;> omega
 obtain ⟨s0, s1⟩ := mulb32 (x := a / 4294967296) (y := b / 4294967296) (by omega) (by omega) (by omega) (by omega)
 obtain ⟨q0, q1⟩ := mulb32 (x := a / 4294967296) (y := b % 4294967296) (by omega) (by omega) (by omega) (by omega)
 obtain ⟨r0, r1⟩ := mulb32 (x := a % 4294967296) (y := b / 4294967296) (by omega) (by omega) (by omega) (by omega)
 obtain ⟨p0, p1⟩ := mulb32 (x := a % 4294967296) (y := b % 4294967296) (by omega) (by omega) (by omega) (by omega)
 simp only [hprod]
 clear hprod
 generalize (a / 4294967296) * (b / 4294967296) = S at *
 generalize (a / 4294967296) * (b % 4294967296) = Q at *
 generalize (a % 4294967296) * (b / 4294967296) = R at *
 generalize (a % 4294967296) * (b % 4294967296) = P at *
 clear ha ha' hb hb'
 have key := mul64_arith P Q R S
 simp only [] at key
 have w1 : IntKind.u64.wrap P = P := by rw [u64w]; omega
 have w2 : IntKind.u64.wrap Q = Q := by rw [u64w]; omega
 have w3 : IntKind.u64.wrap R = R := by rw [u64w]; omega
 have w4 : IntKind.u64.wrap S = S := by rw [u64w]; omega
 have w5 : IntKind.u64.wrap (Q + P / 4294967296) = Q + P / 4294967296 := by rw [u64w]; omega
 rw [w1, w2, w3, w4, w5, and32 (by omega) (by omega)]
 have w6 : IntKind.u64.wrap ((Q + P / 4294967296) % 4294967296 + R) = (Q + P / 4294967296) % 4294967296 + R := by rw [u64w]; omega
 have w7 : IntKind.u64.wrap (S + (Q + P / 4294967296) / 4294967296) = S + (Q + P / 4294967296) / 4294967296 := by rw [u64w]; omega
 rw [w6, w7, u64w, u64w, key]
 congr 2
 omega
theorem wMul_eq {a b : Int} (h1 : -9223372036854775808 ≤ a) (h2 : a ≤ 9223372036854775807) (h3 : -9223372036854775808 ≤ b) (h4 : b ≤ 9223372036854775807) :
  wide_Mul.f a b = some (hiw (a * b), low (a * b)) := by
 have key : ∀ (u v p : Int), u * v = p → ∀ (da db : Int), a = u - da * 18446744073709551616 → b = v - db * 18446744073709551616 → a * b = p - (da * b + db * a) * 18446744073709551616 - da * db * 340282366920938463463374607431768211456 := by
  intro u v p hp da db e1 e2
  have : u = a + da * 18446744073709551616 := by omega
  have : v = b + db * 18446744073709551616 := by omega
  subst u v p; grind
 unfold wide_Mul.f
 rw [u64w a, u64w b, Mul64_eq (by omega) (by omega) (by omega) (by omega)]
 simp only [Option.bind_some]
 by_cases ha : a < 0
 ·by_cases hb : b < 0
  ·rw [if_pos ha, if_pos hb]
   have k := key (a % 18446744073709551616) (b % 18446744073709551616) _ rfl 1 1 (by omega) (by omega)
   generalize (a % 18446744073709551616) * (b % 18446744073709551616) = p at *
   generalize a * b = m at *
   rw [u64w, u64w]
   unfold hiw low wrap64
   congr 2 <;> omega
  ·rw [if_pos ha, if_neg hb]
   have k := key (a % 18446744073709551616) (b % 18446744073709551616) _ rfl 1 0 (by omega) (by omega)
   generalize (a % 18446744073709551616) * (b % 18446744073709551616) = p at *
   generalize a * b = m at *
   rw [u64w]
   unfold hiw low wrap64
   congr 2 <;> omega
 ·by_cases hb : b < 0
  ·rw [if_neg ha, if_pos hb]
   have k := key (a % 18446744073709551616) (b % 18446744073709551616) _ rfl 0 1 (by omega) (by omega)
   generalize (a % 18446744073709551616) * (b % 18446744073709551616) = p at *
   generalize a * b = m at *
   rw [u64w]
   unfold hiw low wrap64
   congr 2 <;> omega
  ·rw [if_neg ha, if_neg hb]
   have k := key (a % 18446744073709551616) (b % 18446744073709551616) _ rfl 0 0 (by omega) (by omega)
   generalize (a % 18446744073709551616) * (b % 18446744073709551616) = p at *
   generalize a * b = m at *
   unfold hiw low wrap64
   congr 2 <;> omega
theorem wOf_eq {a : Int} (h1 : -9223372036854775808 ≤ a) (h2 : a ≤ 9223372036854775807) : wide_Of.f a = some (hiw a, low a) := by
 unfold wide_Of.f hiw low; rw [u64w]; congr 2; omega
theorem wCmp_eq (x y : Int) : wide_Cmp.f (hiw x) (low x) (hiw y) (low y) = some (cmp3 (off x) (off y)) := by
 have hx := low_range x
 have hy := low_range y
 have ex : off x = (hiw x + 9223372036854775808) * 18446744073709551616 + low x := by unfold off hiw low; omega
 have ey : off y = (hiw y + 9223372036854775808) * 18446744073709551616 + low y := by unfold off hiw low; omega
 unfold wide_Cmp.f cmp3
 rw [ex, ey]
 generalize hiw x = a at *
 generalize low x = b at *
 generalize hiw y = c at *
 generalize low y = d at *
 clear ex ey
 by_cases h : (a == c && (b == d)) = true
 ·rw [if_pos h]
  simp only [Bool.and_eq_true, beq_iff_eq] at h
  rw [if_neg (by omega), if_neg (by omega)]
 ·rw [if_neg h]
  simp only [Bool.and_eq_true, beq_iff_eq] at h
  by_cases h1 : a < c
  ·rw [if_pos h1, if_pos (by omega)]
  ·rw [if_neg h1]
   by_cases h2 : a = c
   ·rw [if_pos h2]
    by_cases h3 : b < d
    ·rw [if_pos h3, if_pos (by omega)]
    ·rw [if_neg h3, if_neg (by omega), if_pos (by omega)]
   ·rw [if_neg h2, if_neg (by omega), if_pos (by omega)]
theorem wSign_eq (x : Int) : wide_Sign.f (hiw x) (low x) = some (cmp3 (off x) (off 0)) := by
 unfold wide_Sign.f
 have := wCmp_eq x 0
 rw [show hiw 0 = 0 by decide, show low 0 = 0 by decide] at this
 rw [this]; rfl
theorem sign_of {x : Int} (h1 : -170141183460469231731687303715884105728 ≤ x) (h2 : x < 170141183460469231731687303715884105728) : cmp3 (off x) (off 0) = cmp3 x 0 := by
 unfold cmp3 off; split <;> split <;> first | rfl | omega | (split <;> first | rfl | omega | (split <;> first | rfl | omega))
theorem a64 {x y c : Int} (hx : 0 ≤ x) (hy : 0 ≤ y) (hc : 0 ≤ c) : a64lo x y c = (x + y + c) % 18446744073709551616 ∧ a64hi x y c = (x + y + c) / 18446744073709551616 := by
 unfold a64lo a64hi; omega
abbrev num (x : Int) : S50 := ⟨hiw x, low x⟩
theorem wAdd_l0 : ∀ (n : Nat) (ys : List Int) (i : Nat) (x : Int), i + n = ys.length → ys.length < 9000000000000000000 →
  Ev (fun k => wide_Add.l0 k (ys.map num) (ys.length : Int) (i : Int) (hiw x) (low x)) (hiw (x + (ys.drop i).sum), low (x + (ys.drop i).sum)) := by
 intro n
 induction n with
 | zero =>
  intro ys i x hi hl
  rw [List.drop_of_length_le (by omega)]
  refine Ev.step (f := fun _ => some (hiw x, low x)) (fun k => by simp only [wide_Add.l0]; rw [if_neg (by omega)]) ?_
  simp only [List.sum_nil, Int.add_zero]
  exact Ev.now _
 | succ n ih =>
  intro ys i x hi hl
  have hA : i < ys.length := by omega
  have hrd : rd_T50 (ys.map num) (i : Int) = num ys[i] := by
   unfold rd_T50; rw [List.getD_eq_getElem?_getD, Int.toNat_natCast, List.getElem?_map, List.getElem?_eq_getElem hA]; rfl
  have lx := low_range x
  have ly := low_range ys[i]
  refine Ev.step (f := fun k => wide_Add.l0 k (ys.map num) (ys.length : Int) ((i + 1 : Nat) : Int) (hiw (x + ys[i])) (low (x + ys[i]))) (fun k => ?_) ?_
  ·simp only [wide_Add.l0]
   rw [hrd, if_pos (by omega), if_pos (by omega), if_pos (by rw [List.length_map]; omega), w64_succ i (by omega)]
   generalize ys[i] = y at *
   by_cases hz : (((num y).f0) == 0 && (((num y).f1) == 0)) = true
   ·rw [if_pos hz]
    have h0 : hiw y = 0 ∧ low y = 0 := by simpa using hz
    have e : hiw (x + y) = hiw x ∧ low (x + y) = low x := by
     unfold hiw low at *; omega
    rw [e.1, e.2]
   ·rw [if_neg hz]
    obtain ⟨e1, e2⟩ := a64 lx.1 ly.1 (Int.le_refl 0)
    show (if a64hi (low x) (low y) 0 ≤ 1 then wide_Add.l0 k _ _ _ (wrap64 (a64lo (IntKind.u64.wrap (hiw x)) (IntKind.u64.wrap (hiw y)) (a64hi (low x) (low y) 0))) (a64lo (low x) (low y) 0) else none) = _
    rw [e1, e2, u64w, u64w]
    obtain ⟨e3, _⟩ := a64 (x := hiw x % 18446744073709551616) (y := hiw y % 18446744073709551616) (c := (low x + low y + 0) / 18446744073709551616) (by omega) (by omega) (by omega)
    rw [e3, if_pos (by omega)]
    have g1 : wrap64 ((hiw x % 18446744073709551616 + hiw y % 18446744073709551616 + (low x + low y + 0) / 18446744073709551616) % 18446744073709551616) = hiw (x + y) := by
     unfold wrap64 hiw low; omega
    have g2 : (low x + low y + 0) % 18446744073709551616 = low (x + y) := by unfold low; omega
    rw [g1, g2]
  ·have := ih ys (i + 1) (x + ys[i]) (by omega) hl
   rw [List.drop_eq_getElem_cons hA, List.sum_cons, ← Int.add_assoc]
   exact this
theorem wAdds_ev (x : Int) (ys : List Int) (h : ys.length < 9000000000000000000) : Ev (fun k => wide_Add.f k (hiw x) (low x) (ys.map num)) (hiw (x + ys.sum), low (x + ys.sum)) := by
 have := wAdd_l0 ys.length ys 0 x (by omega) h
 refine Ev.congr (f := fun k => wide_Add.l0 k (ys.map num) (ys.length : Int) ((0 : Nat) : Int) (hiw x) (low x)) (fun k => by unfold wide_Add.f; rw [List.length_map]; rfl) ?_
 exact this
theorem wAdd_ev (x y : Int) : Ev (fun k => wide_Add.f k (hiw x) (low x) ([num y] : List S50)) (hiw (x + y), low (x + y)) := by
 have := wAdds_ev x [y] (by simp)
 simpa using this
theorem xor_ones {x : Int} (h0 : 0 ≤ x) (h1 : x < 18446744073709551616) : Go.bits .xor .u64 18446744073709551615 x = 18446744073709551615 - x := by
 obtain ⟨n, rfl⟩ := Int.eq_ofNat_of_zero_le h0
 unfold Go.bits
 have e : (BitVec.ofInt IntKind.u64.bits 18446744073709551615 ^^^ BitVec.ofInt IntKind.u64.bits (n : Int)) = ~~~ (BitVec.ofNat 64 n) := by
  show BitVec.ofInt 64 18446744073709551615 ^^^ BitVec.ofInt 64 (n : Int) = _
  rw [BitVec.ofInt_natCast, show BitVec.ofInt 64 18446744073709551615 = BitVec.allOnes 64 by decide, BitVec.allOnes_xor]
 simp only [e]
 rw [u64w]
 have : (~~~ (BitVec.ofNat 64 n)).toNat = 18446744073709551615 - n := by
  rw [BitVec.toNat_not, BitVec.toNat_ofNat]; omega
 show (((~~~ (BitVec.ofNat 64 n)).toNat : Nat) : Int) % 18446744073709551616 = _
 rw [this]; omega
theorem b64 {x : Int} (h : (Lit.int .i64 x).wf = true) : -9223372036854775808 ≤ x ∧ x ≤ 9223372036854775807 := by
 simpa [Lit.wf, IntKind.min, IntKind.max, IntKind.signed, IntKind.bits] using h
theorem bu64 {x : Int} (h : (Lit.int .u64 x).wf = true) : 0 ≤ x ∧ x < 18446744073709551616 := by
 have : 0 ≤ x ∧ x ≤ 18446744073709551615 := by simpa [Lit.wf, IntKind.min, IntKind.max, IntKind.signed, IntKind.bits] using h
 omega
theorem b32 {x : Int} (h : (Lit.int .i32 x).wf = true) : -2147483648 ≤ x ∧ x ≤ 2147483647 := by
 simpa [Lit.wf, IntKind.min, IntKind.max, IntKind.signed, IntKind.bits] using h
theorem wDot_l0 (l : List Int) (hl : l.length < 9000000000000000000) (hr : ∀ x ∈ l, -9223372036854775808 ≤ x ∧ x ≤ 9223372036854775807) : ∀ (n i : Nat) (x : Int), i + 2 * n = l.length →
  Ev (fun k => wide_Dot.l0 k l (i : Int) (hiw x) (low x)) (hiw (x + dotS (l.drop i)), low (x + dotS (l.drop i)), 0) := by
 intro n
 induction n with
 | zero =>
  intro i x hi
  rw [List.drop_of_length_le (by omega)]
  refine Ev.step (f := fun _ => some (hiw x, low x, 0)) (fun k => by simp only [wide_Dot.l0]; rw [if_neg (by omega)]) ?_
  simp only [dotS, Int.add_zero]
  exact Ev.now _
 | succ n ih =>
  intro i x hi
  have hA : i < l.length := by omega
  have hB : i + 1 < l.length := by omega
  have ra := hr _ (List.getElem_mem hA)
  have rb := hr _ (List.getElem_mem hB)
  have e2 : wrap64 ((i : Int) + 2) = ((i + 2 : Nat) : Int) := by unfold wrap64; omega
  have q1 : (i : Int) < (l.length : Int) := by omega
  have q2 : ((i + 1 : Nat) : Int) < (l.length : Int) := by omega
  refine Ev.step (f := fun k => (wide_Add.f k (hiw x) (low x) ([num (l[i] * l[i + 1])] : List S50)).bind fun bt170 => (wide_Dot.l0 k l ((i + 2 : Nat) : Int) bt170.1 bt170.2)) (fun k => ?_) ?_
  ·simp only [wide_Dot.l0]
   rw [w64_succ i (by omega), if_pos q1, if_pos (by omega), if_pos (by omega), if_pos q2, rd_nat l i hA, rd_nat l (i + 1) hB, wMul_eq ra.1 ra.2 rb.1 rb.2, e2]
   rfl
  ·refine Ev.bind (wAdd_ev _ _) ?_
   have := ih (i + 2) (x + l[i] * l[i + 1]) (by omega)
   rw [List.drop_eq_getElem_cons hA, List.drop_eq_getElem_cons hB]
   simp only [dotS]
   rw [← Int.add_assoc]
   exact this
theorem wDot_ev {l : List Int} (hl : l.length < 9000000000000000000) (hr : ∀ x ∈ l, -9223372036854775808 ≤ x ∧ x ≤ 9223372036854775807) (he : l.length % 2 = 0) :
  Ev (fun k => wide_Dot.f k l) (hiw (dotS l), low (dotS l), 0) := by
 have := wDot_l0 l hl hr (l.length / 2) 0 0 (by omega)
 rw [List.drop_zero, Int.zero_add] at this
 refine Ev.congr (f := fun k => wide_Dot.l0 k l ((0 : Nat) : Int) (hiw 0) (low 0)) (fun k => ?_) this
 unfold wide_Dot.f; rw [if_pos (by omega)]; rfl
end Go.Proofs.Ytbonkedecfjmdaa.WL

namespace Go.Proofs.Ytbonkedecfjmdaa.G
set_option linter.unusedVariables false
set_option linter.unusedSimpArgs false
open Go.RowKit Go.Proofs.Ytbonkedecfjmdaa.P Go.Proofs.Ytbonkedecfjmdaa.X Go.Proofs.Ytbonkedecfjmdaa.WL Go.Proofs.YtbonkedecfjmdaaW.PrintWords Go.Proofs.YtbonkedecfjmdaaW.PrintLast Go.Proofs.YtbonkedecfjmdaaW.PrintMore
abbrev Pt := S27
def rt (p : Pt) : Bool := decide (p.f2 = 0 ∧ -2147483648 ≤ p.f0 ∧ p.f0 ≤ 2147483647 ∧ -2147483648 ≤ p.f1 ∧ p.f1 ≤ 2147483647)
theorem rt_iff {p : Pt} : rt p = true ↔ p.f2 = 0 ∧ -2147483648 ≤ p.f0 ∧ p.f0 ≤ 2147483647 ∧ -2147483648 ≤ p.f1 ∧ p.f1 ≤ 2147483647 := by unfold rt; simp
theorem rdp (l : List Pt) (i : Nat) (h : i < l.length) : rd_T27 l (i : Int) = l[i] := by
 unfold rd_T27; rw [List.getD_eq_getElem?_getD, Int.toNat_natCast, List.getElem?_eq_getElem h]; rfl
theorem gRight_l0 (l : List Pt) (hl : l.length ≤ 9223372036854775807) : ∀ (n i : Nat), i + n = l.length → Ev (fun k => geom_Right.l0 k l (l.length : Int) (i : Int)) ((l.drop i).all rt) := by
 intro n
 induction n with
 | zero =>
  intro i hi
  rw [List.drop_of_length_le (by omega)]
  exact Ev.step (f := fun _ => some true) (fun k => by simp only [geom_Right.l0]; rw [if_neg (by omega)]) (Ev.now _)
 | succ n ih =>
  intro i hi
  have hA : i < l.length := by omega
  rw [List.drop_eq_getElem_cons hA, List.all_cons]
  have I := ih (i + 1) (by omega)
  have q1 : (i : Int) < (l.length : Int) := by omega
  by_cases hp : rt l[i] = true
  ·rw [hp, Bool.true_and]
   obtain ⟨h1, h2, h3, h4, h5⟩ := rt_iff.1 hp
   refine Ev.step (f := fun k => geom_Right.l0 k l (l.length : Int) ((i + 1 : Nat) : Int)) (fun k => ?_) I
   simp only [geom_Right.l0]
   rw [if_pos q1, if_pos (by omega), if_pos q1, rdp l i hA, if_pos h1, if_neg (by omega), if_neg (by omega), if_neg (by omega), if_neg (by omega), w64_succ i (by omega)]
  ·rw [Bool.eq_false_iff.2 hp, Bool.false_and]
   refine Ev.step (f := fun _ => some false) (fun k => ?_) (Ev.now _)
   rw [rt_iff] at hp
   simp only [geom_Right.l0]
   rw [if_pos q1, if_pos (by omega), if_pos q1, rdp l i hA]
   by_cases h1 : l[i].f2 = 0
   ·rw [if_pos h1]
    by_cases h2 : l[i].f0 < -2147483648
    ·rw [if_pos h2]
    ·rw [if_neg h2]
     by_cases h3 : l[i].f0 > 2147483647
     ·rw [if_pos h3]
     ·rw [if_neg h3]
      by_cases h4 : l[i].f1 < -2147483648
      ·rw [if_pos h4]
      ·rw [if_neg h4, if_pos (by omega)]
   ·rw [if_neg h1]
theorem gRight_ev (l : List Pt) (hl : l.length ≤ 9223372036854775807) : Ev (fun k => geom_Right.f k l) (l.all rt) := by
 have := gRight_l0 l hl l.length 0 (by omega)
 exact Ev.congr (f := fun k => geom_Right.l0 k l (l.length : Int) ((0 : Nat) : Int)) (fun k => by unfold geom_Right.f; rfl) this
def cross (a b c : Pt) : Int := (b.f0 - a.f0) * (c.f1 - a.f1) - (b.f1 - a.f1) * (c.f0 - a.f0)
def side (a b c : Pt) : Int := cmp3 (cross a b c) 0
theorem mulb33 {x y : Int} (h1 : -4294967296 ≤ x) (h2 : x ≤ 4294967296) (h3 : -4294967296 ≤ y) (h4 : y ≤ 4294967296) : -18446744073709551616 ≤ x * y ∧ x * y ≤ 18446744073709551616 := by
 have key : ∀ u v : Int, 0 ≤ u → u ≤ 4294967296 → 0 ≤ v → v ≤ 4294967296 → 0 ≤ u * v ∧ u * v ≤ 18446744073709551616 := fun u v a b c d =>
  ⟨Int.mul_nonneg a c, by have := Int.mul_le_mul b d c (by decide); exact this⟩
 by_cases hx : 0 ≤ x <;> by_cases hy : 0 ≤ y
 ·have := key x y hx h2 hy h4; omega
 ·have := key x (-y) hx h2 (by omega) (by omega); rw [Int.mul_neg] at this; omega
 ·have := key (-x) y (by omega) (by omega) hy h4; rw [Int.neg_mul] at this; omega
 ·have := key (-x) (-y) (by omega) (by omega) (by omega) (by omega); rw [Int.neg_mul_neg] at this; omega
theorem cross_two {a b c : Pt} (ha : rt a = true) (hb : rt b = true) (hc : rt c = true) :
  (-18446744073709551616 ≤ (b.f0 - a.f0) * (c.f1 - a.f1) ∧ (b.f0 - a.f0) * (c.f1 - a.f1) ≤ 18446744073709551616) ∧ (-18446744073709551616 ≤ (b.f1 - a.f1) * (c.f0 - a.f0) ∧ (b.f1 - a.f1) * (c.f0 - a.f0) ≤ 18446744073709551616) := by
 obtain ⟨_, a1, a2, a3, a4⟩ := rt_iff.1 ha
 obtain ⟨_, b1, b2, b3, b4⟩ := rt_iff.1 hb
 obtain ⟨_, c1, c2, c3, c4⟩ := rt_iff.1 hc
 exact ⟨mulb33 (by omega) (by omega) (by omega) (by omega), mulb33 (by omega) (by omega) (by omega) (by omega)⟩
theorem gturn_ev {a b c : Pt} (ha : rt a = true) (hb : rt b = true) (hc : rt c = true) : Ev (fun k => geom_turn.f k a.f0 a.f1 a.f2 b.f0 b.f1 b.f2 c.f0 c.f1 c.f2) (side a b c) := by
 obtain ⟨_, a1, a2, a3, a4⟩ := rt_iff.1 ha
 obtain ⟨_, b1, b2, b3, b4⟩ := rt_iff.1 hb
 obtain ⟨_, c1, c2, c3, c4⟩ := rt_iff.1 hc
 obtain ⟨⟨m1, m2⟩, m3, m4⟩ := cross_two ha hb hc
 unfold geom_turn.f
 rw [w64_id (x := b.f0 - a.f0) (by omega) (by omega), w64_id (x := c.f1 - a.f1) (by omega) (by omega), w64_id (x := a.f1 - b.f1) (by omega) (by omega), w64_id (x := c.f0 - a.f0) (by omega) (by omega)]
 have D := wDot_ev (l := [b.f0 - a.f0, c.f1 - a.f1, a.f1 - b.f1, c.f0 - a.f0]) (by simp) (by
  intro x hx
  simp only [List.mem_cons, List.not_mem_nil, or_false] at hx
  rcases hx with rfl | rfl | rfl | rfl <;> omega) (by simp)
 have e : dotS [b.f0 - a.f0, c.f1 - a.f1, a.f1 - b.f1, c.f0 - a.f0] = cross a b c := by
  simp only [dotS, cross]
  rw [show a.f1 - b.f1 = -(b.f1 - a.f1) by omega, Int.neg_mul]
  generalize (b.f0 - a.f0) * (c.f1 - a.f1) = X
  generalize (b.f1 - a.f1) * (c.f0 - a.f0) = Y
  omega
 rw [e] at D
 refine Ev.bind D ?_
 rw [show wide_Sign.f (hiw (cross a b c)) (low (cross a b c)) = some (side a b c) by
  rw [wSign_eq, sign_of (by unfold cross; omega) (by unfold cross; omega)]; rfl]
 exact Ev.now _
theorem cmp_sub {x y : Int} (hx : -18446744073709551616 ≤ x) (hx' : x ≤ 18446744073709551616) (hy : -18446744073709551616 ≤ y) (hy' : y ≤ 18446744073709551616) : cmp3 (off x) (off y) = cmp3 (x - y) 0 := by
 unfold cmp3 off; split <;> split <;> first | rfl | omega | (split <;> first | rfl | omega | (split <;> first | rfl | omega))
def onB (p a b : Pt) : Bool := rt p && (rt a && (rt b && decide (cross a b p = 0 ∧ (min a.f0 b.f0 ≤ p.f0 ∧ p.f0 ≤ max a.f0 b.f0) ∧ (min a.f1 b.f1 ≤ p.f1 ∧ p.f1 ≤ max a.f1 b.f1))))
theorem side0 {a b c : Pt} : side a b c = 0 ↔ cross a b c = 0 := by unfold side; rw [cmp3_eq0]
theorem cross_swap (a b c : Pt) : cross b a c = -cross a b c := by unfold cross; grind
theorem onB_swap (p a b : Pt) : onB p a b = onB p b a := by
 unfold onB
 have := cross_swap a b p
 rw [Bool.eq_iff_iff]
 simp only [Bool.and_eq_true, decide_eq_true_eq, Int.min_comm b.f0, Int.max_comm b.f0, Int.min_comm b.f1, Int.max_comm b.f1]
 constructor <;> (rintro ⟨h1, h2, h3, h4, h5⟩; exact ⟨h1, h3, h2, by omega, h5⟩)

def key (p : Pt) : Int := p.f0 * 4294967296 + p.f1
theorem key_inj {p q : Pt} (hp : rt p = true) (hq : rt q = true) (h : key p = key q) : p = q := by
 obtain ⟨a0, a1, a2, a3, a4⟩ := rt_iff.1 hp
 obtain ⟨b0, b1, b2, b3, b4⟩ := rt_iff.1 hq
 unfold key at h
 cases p; cases q
 simp only at *
 congr 1 <;> omega
theorem less_eq {a b : Pt} (ha : rt a = true) (hb : rt b = true) : geom_less.f a.f0 a.f1 a.f2 b.f0 b.f1 b.f2 = some (decide (key a < key b)) := by
 obtain ⟨a0, a1, a2, a3, a4⟩ := rt_iff.1 ha
 obtain ⟨b0, b1, b2, b3, b4⟩ := rt_iff.1 hb
 unfold geom_less.f key
 by_cases h1 : a.f0 < b.f0
 ·rw [if_pos h1, show decide (a.f0 * 4294967296 + a.f1 < b.f0 * 4294967296 + b.f1) = true by simp; omega]
 ·rw [if_neg h1]
  by_cases h2 : a.f0 = b.f0
  ·rw [if_pos h2]; congr 1; rw [decide_eq_decide]; omega
  ·rw [if_neg h2, show decide (a.f0 * 4294967296 + a.f1 < b.f0 * 4294967296 + b.f1) = false by simp; omega]
def touch (lo hi : Int) : Int := if lo = hi then 1 else if lo < hi then 3 else 0
theorem along_j1 {lo hi : Pt} (hl : rt lo = true) (hh : rt hi = true) : Ev (fun k => geom_along.j1 k lo.f0 lo.f1 lo.f2 hi.f0 hi.f1 hi.f2) (touch (key lo) (key hi)) := by
 refine Ev.step (f := fun _ => some (touch (key lo) (key hi))) (fun k => ?_) (Ev.now _)
 simp only [geom_along.j1, less_eq hl hh, Option.bind_some]
 unfold touch
 by_cases h : key lo = key hi
 ·have := key_inj hl hh h
  subst this
  simp
 ·rw [if_neg h]
  rw [if_neg (by
   intro e
   simp only [Bool.and_eq_true, beq_iff_eq] at e
   unfold key at h; omega)]
  by_cases h2 : key lo < key hi <;> simp [h2]
theorem along_j0 {d lo hi : Pt} (hd : rt d = true) (hl : rt lo = true) (hh : rt hi = true) : Ev (fun k => geom_along.j0 k d.f0 d.f1 d.f2 lo.f0 lo.f1 lo.f2 hi.f0 hi.f1 hi.f2) (touch (key lo) (min (key d) (key hi))) := by
 by_cases h : key d < key hi
 ·refine Ev.step (f := fun k => geom_along.j1 k lo.f0 lo.f1 lo.f2 d.f0 d.f1 d.f2) (fun k => ?_) ?_
  ·simp [geom_along.j0, less_eq hd hh, h]
  ·rw [show min (key d) (key hi) = key d by omega]; exact along_j1 hl hd
 ·refine Ev.step (f := fun k => geom_along.j1 k lo.f0 lo.f1 lo.f2 hi.f0 hi.f1 hi.f2) (fun k => ?_) ?_
  ·simp [geom_along.j0, less_eq hd hh, h]
  ·rw [show min (key d) (key hi) = key hi by omega]; exact along_j1 hl hh
theorem rising_eq {a b : Pt} (ha : rt a = true) (hb : rt b = true) : ∃ lo hi : Pt, geom_rising.f a.f0 a.f1 a.f2 b.f0 b.f1 b.f2 = some (lo.f0, lo.f1, lo.f2, hi.f0, hi.f1, hi.f2) ∧ rt lo = true ∧ rt hi = true ∧ key lo = min (key a) (key b) ∧ key hi = max (key a) (key b) := by
 unfold geom_rising.f
 rw [less_eq hb ha]
 by_cases h : key b < key a
 ·exact ⟨b, a, by simp [h], hb, ha, by omega, by omega⟩
 ·exact ⟨a, b, by simp [h], ha, hb, by omega, by omega⟩
theorem along_ev {a b c d : Pt} (ha : rt a = true) (hb : rt b = true) (hc : rt c = true) (hd : rt d = true) :
  Ev (fun k => geom_along.f k a.f0 a.f1 a.f2 b.f0 b.f1 b.f2 c.f0 c.f1 c.f2 d.f0 d.f1 d.f2) (touch (max (min (key a) (key b)) (min (key c) (key d))) (min (max (key a) (key b)) (max (key c) (key d)))) := by
 obtain ⟨l1, h1, e1, r1, s1, k1, m1⟩ := rising_eq ha hb
 obtain ⟨l2, h2, e2, r2, s2, k2, m2⟩ := rising_eq hc hd
 unfold geom_along.f
 simp only [e1, e2, Option.bind_some, less_eq r1 r2]
 by_cases h : key l1 < key l2
 ·have J := along_j0 s2 r2 s1
  simp only [h, decide_true, if_true]
  rw [show max (min (key a) (key b)) (min (key c) (key d)) = key l2 by omega, show min (max (key a) (key b)) (max (key c) (key d)) = min (key h2) (key h1) by omega]
  exact J
 ·have J := along_j0 s2 r1 s1
  simp only [h, decide_false, Bool.false_eq_true, if_false]
  rw [show max (min (key a) (key b)) (min (key c) (key d)) = key l1 by omega, show min (max (key a) (key b)) (max (key c) (key d)) = min (key h2) (key h1) by omega]
  exact J
def both (x a b c d : Pt) : Bool := onB x a b && onB x c d
def crs (a b c d : Pt) : Prop := side a b c * side a b d < 0 ∧ side c d a * side c d b < 0
def one_ (a b c d : Pt) : Prop := ∃ x, x ∈ [a, b, c, d] ∧ both x a b c d = true
def two_ (a b c d : Pt) : Prop := ∃ x y, x ∈ [a, b, c, d] ∧ y ∈ [a, b, c, d] ∧ both x a b c d = true ∧ both y a b c d = true ∧ x ≠ y
open Classical in
noncomputable def crsV (a b c d : Pt) : Int := if crs a b c d then 2 else 0
open Classical in
noncomputable def meetM (a b c d : Pt) : Int := if two_ a b c d then 3 else if one_ a b c d then 1 else crsV a b c d
open Classical in
noncomputable def meetV (a b c d : Pt) : Int := if (rt a && (rt b && (rt c && rt d))) = true then meetM a b c d else 0
theorem meetM_congr {a b c d a' b' c' d' : Pt} (h2 : two_ a b c d ↔ two_ a' b' c' d') (h1 : one_ a b c d ↔ one_ a' b' c' d') (h0 : crs a b c d ↔ crs a' b' c' d') : meetM a b c d = meetM a' b' c' d' := by
 unfold meetM crsV
 rw [propext h2, propext h1, propext h0]
theorem side_swap (a b c : Pt) : side b a c = -side a b c := by
 unfold side; rw [cross_swap]; unfold cmp3; split <;> split <;> first | rfl | omega | (split <;> first | rfl | omega | (split <;> first | rfl | omega))
theorem both_sets {a b c d a' b' c' d' : Pt} (hb : ∀ x, both x a b c d = both x a' b' c' d') (hm : ∀ x, x ∈ [a, b, c, d] ↔ x ∈ [a', b', c', d']) : (two_ a b c d ↔ two_ a' b' c' d') ∧ (one_ a b c d ↔ one_ a' b' c' d') := by
 constructor
 ·constructor
  ·rintro ⟨x, y, h1, h2, h3, h4, h5⟩; exact ⟨x, y, (hm x).1 h1, (hm y).1 h2, (hb x).symm.trans h3, (hb y).symm.trans h4, h5⟩
  ·rintro ⟨x, y, h1, h2, h3, h4, h5⟩; exact ⟨x, y, (hm x).2 h1, (hm y).2 h2, (hb x).trans h3, (hb y).trans h4, h5⟩
 ·constructor
  ·rintro ⟨x, h1, h2⟩; exact ⟨x, (hm x).1 h1, (hb x).symm.trans h2⟩
  ·rintro ⟨x, h1, h2⟩; exact ⟨x, (hm x).2 h1, (hb x).trans h2⟩
theorem meetM_cd (a b c d : Pt) : meetM c d a b = meetM a b c d := by
 obtain ⟨h2, h1⟩ := both_sets (a := c) (b := d) (c := a) (d := b) (a' := a) (b' := b) (c' := c) (d' := d) (fun x => by unfold both; rw [Bool.and_comm]) (fun x => by simp only [List.mem_cons, List.not_mem_nil, or_false]; constructor <;> (rintro (h | h | h | h) <;> simp [h]))
 exact meetM_congr h2 h1 (by unfold crs; exact ⟨fun h => ⟨h.2, h.1⟩, fun h => ⟨h.2, h.1⟩⟩)
theorem meetM_ba (a b c d : Pt) : meetM b a c d = meetM a b c d := by
 obtain ⟨h2, h1⟩ := both_sets (a := b) (b := a) (c := c) (d := d) (a' := a) (b' := b) (c' := c) (d' := d) (fun x => by unfold both; rw [onB_swap x b a]) (fun x => by simp only [List.mem_cons, List.not_mem_nil, or_false]; constructor <;> (rintro (h | h | h | h) <;> simp [h]))
 refine meetM_congr h2 h1 ?_
 unfold crs
 rw [side_swap a b c, side_swap a b d, Int.neg_mul_neg, Int.mul_comm (side c d b)]
theorem meetM_dc (a b c d : Pt) : meetM a b d c = meetM a b c d := by
 rw [← meetM_cd a b d c, meetM_ba, meetM_cd]
theorem ne_iff {x y : Pt} : (!(x.f0 == y.f0) || (!(x.f1 == y.f1) || (!(x.f2 == y.f2)))) = true ↔ x ≠ y := by
 rcases x with ⟨x0, x1, x2⟩
 rcases y with ⟨y0, y1, y2⟩
 simp only [ne_eq, S27.mk.injEq, Bool.or_eq_true, Bool.not_eq_true', beq_eq_false_iff_ne]
 constructor
 ·rintro (h | h | h) <;> (rintro ⟨a, b, c⟩; contradiction)
 ·intro h
  by_cases h1 : x0 = y0
  ·by_cases h2 : x1 = y1
   ·exact .inr (.inr fun h3 => h ⟨h1, h2, h3⟩)
   ·exact .inr (.inl h2)
  ·exact .inl h1
theorem side_range (a b c : Pt) : -1 ≤ side a b c ∧ side a b c ≤ 1 := by unfold side cmp3; split <;> (try split) <;> omega
theorem side_mul (a b c a' b' c' : Pt) : wrap64 (side a b c * side a' b' c') = side a b c * side a' b' c' := by
 have h := side_range a b c
 have h' := side_range a' b' c'
 have e : side a b c = -1 ∨ side a b c = 0 ∨ side a b c = 1 := by omega
 rcases e with e | e | e <;> rw [e] <;> exact w64_id (by omega) (by omega)
end Go.Proofs.Ytbonkedecfjmdaa.G
