/- Written for this claim by a program of this session (a turned copy of the print): Go functions as Lean functions, and that the Go code comes to just these answers; or a statement proved out of them. No condition. Wide numbers: what the document's own functions answer, for any digits. Points of the plane: what the document's functions answer. Rings: twice the area, as the document's function answers. -/
import Derived.Test.YtbonkedecfjmdaaZ2
import Derived.Test.YtbonkedecfjmdaaZ5
import Derived.Test.YtbonkedecfjmdaaZ7
import Derived.Test.YtbonkedecfjmdaaZ6
import Derived.Test.YtbonkedecfjmdaaZ16
import Derived.Test.YtbonkedecfjmdaaZ8
import Derived.Test.YtbonkedecfjmdaaZ19

namespace Go.Proofs.Ytbonkedecfjmdaa.P
open Go.RowKit Go.Proofs.YtbonkedecfjmdaaW.PrintWords Go.Proofs.YtbonkedecfjmdaaW.PrintLast Go.Proofs.YtbonkedecfjmdaaW.PrintMore Go.Proofs.Ytbonkedecfjmdaa.X
attribute [local go_sem] max2_int min2_int max_two min_two max_three min_three max_four min_four add64_0 add64_1 add64
set_option linter.unusedVariables false
set_option linter.unusedSimpArgs false
def rf08_From.l0 : Nat → Int → List Int → Int → List Int → Option (List Int)
 | 0, _, _, _, _ => none
 | k + 1, x1, x6, x7, x781000 => if x7 < 4 then (if x6.length < 17592186044416 then (rf08_From.l0 k (IntKind.u64.wrap (Int.tdiv x1 65536)) (x6 ++ [wrap64 (Int.tmod x1 65536)]) (wrap64 (x7 + 1)) x781000) else (none)) else (if 4 ≤ (x781000.length : Int) then ((some (x781000.take 4 : List Int)).bind fun y784 => (if x6.length + y784.length < 17592186044416 then (some (x6 ++ y784)) else (none))) else (none))
def rf08_From.f (k : Nat) (a0 : Int) (a1 : Int) : Option (List Int) := (rf08_Of.f k a0).bind fun t777 => (rf08_From.l0 k a1 ([] : List Int) 0 t777)
theorem rf08_From.mono_l : ∀ k, (∀ y0 y1 y2 y3, LeO (rf08_From.l0 k y0 y1 y2 y3) (rf08_From.l0 (k + 1) y0 y1 y2 y3))
 | 0 => fun _ _ _ _ r h => by simp [rf08_From.l0] at h
 | k + 1 => by
  have ih0 := rf08_From.mono_l k
  ·intro y0 y1 y2 y3
   unfold rf08_From.l0
   repeat' first
   | (with_reducible exact ih0 _ _ _ _)
   | (with_reducible exact rf08_Of.mono _ _)
   | (with_reducible exact LeO.refl _)
   | (with_reducible exact LeO.none _)
   | (with_reducible refine LeO.ite ?_ ?_)
   | (with_reducible refine LeO.bind ?_ (fun _ => ?_))
   | exact ih0 _ _ _ _
   | exact rf08_Of.mono _ _
   | exact LeO.none _
   | refine LeO.ite ?_ ?_
   | refine LeO.bind ?_ (fun _ => ?_)
theorem rf08_From.mono : ∀ a0 a1 k, LeO (rf08_From.f k a0 a1) (rf08_From.f (k + 1) a0 a1) := by
 intro a0 a1 k
 have ih0 := rf08_From.mono_l k
 unfold rf08_From.f
 repeat' first
   | (with_reducible exact ih0 _ _ _ _)
   | (with_reducible exact rf08_Of.mono _ _)
   | (with_reducible exact LeO.refl _)
   | (with_reducible exact LeO.none _)
   | (with_reducible refine LeO.ite ?_ ?_)
   | (with_reducible refine LeO.bind ?_ (fun _ => ?_))
   | exact ih0 _ _ _ _
   | exact rf08_Of.mono _ _
   | exact LeO.none _
   | refine LeO.ite ?_ ?_
   | refine LeO.bind ?_ (fun _ => ?_)
set_option maxHeartbeats 8000000 in
set_option maxRecDepth 100000 in
theorem rf08_From.calls (k : Nat) (a0 : Int) (a1 : Int) (r : List Int) (w : World) (h : rf08_From.f k a0 a1 = some r) :
  Calls Try.prog 50 #[.int .i64 a0, .int .u64 a1] w fun e w' => ∃ v0_ : Value, e = .returned (.agg #[v0_]) ∧ Kd.R (Kd.int .i64) 3 w' w.heap.size (fun _ => True) v0_ r ∧ Below w.heap.size w w' := by
 have hu43 := Try.underlying43
 have HB := AM (Below.refl w.heap.size w)
 have H : ((rf08_Of.f k a0).bind fun t777 => (rf08_From.l0 k a1 ([] : List Int) 0 t777)) = some r := h
 clear h
 obtain ⟨t777, A3, H⟩ := bS H
 have H' := AM H
 clear H
 go_enter Try.func50, Try.ntmps50
 go_wp2_with (first | ((with_reducible refine gate_dst (N := 4) rfl ?_); refine bE 4 #[.slice none 0 0] 43 ?_; intro gb776 hg w4 hbox hb; have BK776 := AM hbox; have GW776 := kG HB hg; replace HB := kH HB hb; have GE776 := GW776; clear hb hbox hg) | ((with_reducible refine gate_callee (f := 18) rfl ?_); refine gL (some 9) Try.func18 #[.int .i64 a0] ?_; (with_reducible refine (rf08_Of.calls k a0 t777 _ A3.out).mono ?_); rintro e w5 ⟨v778, rfl, ho0, hb⟩; refine ⟨_, rfl, ?_⟩; have HO779 := AM (Kd.R_lower ho0 (below_size (bH HB))); replace BK776 := kB BK776 hb; replace HB := kH HB hb; (try clear hb); (try clear hb2); (try clear hk); (try clear hi); (try clear ho0)) | ((with_reducible refine gate_dst (N := 5) rfl ?_); refine bE 5 #[.slice none 0 0] 43 ?_; intro gb780 hg w6 hbox hb; replace HO779 := kR HO779 hb; have BK780 := AM hbox; have GW780 := kG HB hg; replace HB := kH HB hb; have GE780 := GW780; have NB776_780 := kN BK776 hg; have NB780_776 := kM BK776 hg; replace BK776 := kB BK776 hb; clear hb hbox hg; obtain ⟨Ao7, co7, eo7⟩ := Kd.R_slice HO779.out; subst eo7; have hnb8 := NB780_776.out; have hnc8 := NB776_780.out; obtain ⟨hcz9_0, hfz9_0⟩ := c1 BK780))
 go_loopg [1, 6, 7] k (fun kq v1 v6 v7 w' => ∃ (x1_1 : Int) (x6_1 : List Int) (x7_1 : Int), v1 = .int .u64 x1_1 ∧ v7 = .int .i64 x7_1 ∧ Aside0 (rf08_From.l0 kq x1_1 x6_1 x7_1 t777 = some r) ∧ Aside0 (kq ≤ k) ∧ Aside0 (Kd.R (Kd.int .i64) 3 w' w.heap.size (fun k_ => some k_ ≠ ((.slice Ao7 t777.length co7) : Value).ownBlock) v6 x6_1) ∧ Aside0 (Kd.R (Kd.int .i64) 3 w' w.heap.size (fun k_ => some k_ ≠ (v6 : Value).ownBlock) (.slice Ao7 t777.length co7) t777) ∧ Aside0 (w'.heap[gb776]? = some (.cells #[(.slice none 0 0)] 43 (0, 0))) ∧ Aside0 (w'.heap[gb780]? = some (.cells #[(.slice Ao7 t777.length co7)] 43 (0, 0))) ∧ Aside0 (Below w.heap.size w w'))
 case atStart => exact ⟨(a1), (([] : List Int)), (0), rS, rS, H', ⟨Nat.le_refl _⟩, ⟨by first | exact Kd.R_nil _ _ _ _ _ | exact Kd.N_nil _ _ _ _ _ | exact Kd.V_nil _ _ _ _ _ | exact Kd.Q_nil _ _ _ _ _ | exact Kd.S_nil _ _ _ _ _⟩, ⟨by (with_reducible repeat (first | apply Kd.R_alloc | apply Kd.R_drewN | apply Kd.R_drew)); exact Kd.R_mono (Kd.R_far (p := ⟨gb780, 0, none⟩) (Kd.R_types HO779.out BK780.out (by decide)) (fun _ hk => hk.2) (.slice Ao7 t777.length co7)) (fun _ hk => (by simp [Value.ownBlock]))⟩, ⟨bK BK776⟩, ⟨by (with_reducible repeat (first | refine blk_drewN ?_ _ | refine blk_drew ?_ | refine blk_alloc ?_ _)); refine blk_put (cs := #[.slice none 0 0]) ?_ 0 _ rfl; (with_reducible repeat (first | refine blk_drewN ?_ _ | refine blk_drew ?_ | refine blk_alloc ?_ _)); exact BK780.out⟩, ⟨ bH HB⟩⟩
 case round =>
  clear H'
  (try clear c1); (try clear p2); (try clear c5); (try clear c8); (try clear hcz9_0); (try clear hfz9_0)
  obtain ⟨x1_1, x6_1, x7_1, rfl, rfl, HA, HK1, HO_6, HO_781000, BK776, BK780, HB⟩ := hrel
  cases gk with
  | zero => exact absurd HA.out (by simp [rf08_From.l0])
  | succ k1 =>
   have H := HA.out; clear HA
   simp only [rf08_From.l0] at H
   by_cases c10 : x7_1 < 4
   ·rw [if_pos c10] at H
    have c10b0 := decide_eq_true c10; clear c10
    by_cases c11 : x6_1.length < 17592186044416
    ·rw [if_pos c11] at H
     have LMc11 := AM c11
     clear c11
     obtain ⟨y781, hy781⟩ : ∃ y_ : List Int, y_ = (x6_1 ++ [wrap64 (Int.tmod x1_1 65536)]) := ⟨_, rfl⟩
     replace H : (rf08_From.l0 k1 (IntKind.u64.wrap (Int.tdiv x1_1 65536)) y781 (wrap64 (x7_1 + 1)) t777) = some r := by first | (rw [hy781]; with_reducible exact H) | (have H2_ := (Option.bind_some _ _).symm.trans H; rw [hy781]; with_reducible exact H2_) | (have H2_ := (Option.bind_some _ _).symm.trans H; with_reducible exact H2_) | with_reducible exact H | (rw [hy781]; exact H) | exact H
     have Ny781 := AM hy781
     clear hy781
     have H' := AM H
     clear H
     go_wp2_with (first | ((with_reducible refine gate_builtin (b := .append) (xs := #[.tmp 14, .tmp 18]) rfl ?_); at_builtin; refine Kd.R_append (Kd.int .i64) (w0 := w) w.heap.size rfl (.tmp 14) (.tmp 18) 32 3 (.int .i64 0) 8 rfl Try.underlying32 info3 rfl (by decide) (by omega) u6 x6_1 (wrap64 (Int.tmod x1_1 65536)) [.int .i64 (wrap64 (Int.tmod x1_1 65536))] (fun k_ => some k_ ≠ (.slice Ao7 t777.length co7 : Value).ownBlock) (fun _ => False) rfl rfl ?aP (fun _ hk => hk.elim) ?aF ?aO ?aB ?aS ?aL ?_; (case aP => exact rfl); (case aB => exact (bH HB)); (case aF => exact (fun k_ hk => Kd.fresh' (Kd.R_lt (rK HO_781000)) k_ hk)); (case aO => exact (rK HO_6)); (case aS => exact (below_size (bH HB))); (case aL => have := LMc11.out; omega); intro v782 w12 ho hb hg hat; rw [← Ny781.out] at ho; replace HO_781000 := AM (Kd.R_after (ok := (fun _ => True)) (by (with_reducible repeat (first | apply Kd.R_alloc | apply Kd.R_drewN | apply Kd.R_drew)); exact Kd.R_mono HO_781000.out (fun _ hk => ⟨trivial, hk⟩)) hg hat); replace BK776 := AM (blk_grown (g := gb776) (o := .cells #[.slice none 0 0] 43 (0, 0)) (bK BK776) hg (Kd.R_ne HO_6.out BK776.out (by decide))); replace BK780 := AM (blk_grown (g := gb780) (o := .cells #[.slice Ao7 t777.length co7] 43 (0, 0)) (bK BK780) hg (Kd.R_ne HO_6.out BK780.out (by decide))); replace HB := AM hb; have HO783 := AM ho; clear HO_6; clear ho hb hg hat))
     go_roundg k1
     case measure => have := HK1.out; omega
     case rel => exact ⟨(IntKind.u64.wrap (Int.tdiv x1_1 65536)), (y781), (wrap64 (x7_1 + 1)), rS, rS, H', ⟨by have := HK1.out; omega⟩, ⟨rK HO783⟩, ⟨by (with_reducible repeat (first | apply Kd.R_alloc | apply Kd.R_drewN | apply Kd.R_drew)); exact Kd.R_mono HO_781000.out (fun _ hk => hk.2)⟩, ⟨bK BK776⟩, ⟨bK BK780⟩, ⟨ bH HB⟩⟩
    ·rw [if_neg c11] at H
     exact absurd H (by simp)
   ·rw [if_neg c10] at H
    have c10b0 := decide_eq_false c10; clear c10
    by_cases c13 : 4 ≤ (t777.length : Int)
    ·rw [if_pos c13] at H
     have c13b0 := eq_true c13; have c13b1 := decide_eq_true c13; clear c13
     obtain ⟨y784, hy784⟩ : ∃ y_ : List Int, y_ = (t777.take 4) := ⟨_, rfl⟩
     replace H : (if x6_1.length + y784.length < 17592186044416 then (some (x6_1 ++ y784)) else (none)) = some r := by first | (rw [hy784]; with_reducible exact H) | (have H2_ := (Option.bind_some _ _).symm.trans H; rw [hy784]; with_reducible exact H2_) | (have H2_ := (Option.bind_some _ _).symm.trans H; with_reducible exact H2_) | with_reducible exact H | (rw [hy784]; exact H) | exact H
     have Ny784 := AM hy784
     clear hy784
     by_cases c14 : x6_1.length + y784.length < 17592186044416
     ·rw [if_pos c14] at H
      have LMc14 := AM c14
      clear c14
      obtain ⟨y788, hy788⟩ : ∃ y_ : List Int, y_ = (x6_1 ++ y784) := ⟨_, rfl⟩
      replace H : (some y788) = some r := by first | (rw [hy788]; with_reducible exact H) | (have H2_ := (Option.bind_some _ _).symm.trans H; rw [hy788]; with_reducible exact H2_) | (have H2_ := (Option.bind_some _ _).symm.trans H; with_reducible exact H2_) | with_reducible exact H | (rw [hy788]; exact H) | exact H
      have Ny788 := AM hy788
      clear hy788
      obtain rfl := Option.some.inj H
      have hnb15 := NB780_776.out; have hnc15 := NB776_780.out; obtain ⟨hcz16_0, hfz16_0⟩ := c1 BK780
      have q17 : (4 : Int) ≤ ((t777.length : Int) : Int) := pD
      obtain ⟨i017, hi017, _, hsz17, _⟩ := info_parts info3
      have hroom17 : t777.length ≤ co7 := (Kd.R_reads' HO_781000.out).2.1
      have hC17 : Kd.C (Kd.int .i64) _ Ao7 t777.length t777 := (Kd.R_reads' HO_781000.out).2.2
      have hcut17 := cut_to (P := Try.prog) 32 3 .i64 Try.underlying32 hi017 Ao7 t777.length co7 4 (by omega) q17 hroom17
      have hr17 := Kd.C_take (m := 4) hC17 (by omega)
      have hy17 : y784.length = (4 : Int).toNat := (by rw [Ny784.out, List.length_take]; omega)
      rw [← Ny784.out] at hr17
      rw [← hy17] at hcut17
      have HR787 := AM hr17
      have HC787 := AM (show y784.length ≤ co7 from by omega)
      clear hr17 hC17 hroom17 hi017 hsz17
      have KY17 := AM hy17
      clear hy17
      have KL17 := AM (show 4 ≤ t777.length from by omega)
      replace q17 := eq_true q17
      go_wp2_with (first | ((with_reducible refine gate_builtin (b := .append) (xs := #[.tmp 22, .tmp 25]) rfl ?_); at_builtin; refine Kd.R_append_rows (Kd.int .i64) (w0 := w) w.heap.size rfl (.tmp 22) (.tmp 25) 32 3 (.int .i64 0) 8 rfl Try.underlying32 info3 rfl (by decide) (by omega) u6 x6_1 y784 _ _ _ (fun k_ => some k_ ≠ (.slice Ao7 t777.length co7 : Value).ownBlock) (fun _ => False) rfl rfl ?aO ?aR (fun _ _ h => h) (fun _ h => h.elim) ?aF ?aB ?aS ?aL ?_; (case aR => repeat (first | exact (by repeat (first | (with_reducible exact HR787.out) | (with_reducible refine Kd.C_alloc ?_ _) | (with_reducible refine Kd.C_drewN ?_ _) | (with_reducible refine Kd.C_drew ?_) | exact HR787.out)) | (with_reducible refine Kd.C_alloc ?_ _) | (with_reducible refine Kd.C_drewN ?_ _) | (with_reducible refine Kd.C_drew ?_))); (case aB => exact (bH HB)); (case aF => exact (fun k_ hk => Kd.fresh' (Kd.R_lt (rK HO_781000)) k_ hk)); (case aO => exact (rK HO_6)); (case aS => exact (below_size (bH HB))); (case aL => have := LMc14.out; omega); intro v789 w18 ho hb hg hat; rw [← Ny788.out] at ho; replace BK776 := AM (blk_grown (g := gb776) (o := .cells #[.slice none 0 0] 43 (0, 0)) (bK BK776) hg (Kd.R_ne HO_6.out BK776.out (by decide))); replace BK780 := AM (blk_grown (g := gb780) (o := .cells #[.slice Ao7 t777.length co7] 43 (0, 0)) (bK BK780) hg (Kd.R_ne HO_6.out BK780.out (by decide))); replace HB := AM hb; replace HR787 := AM (show Kd.C (Kd.int .i64) w18 Ao7 y784.length y784 from by rw [Ny784.out]; exact Kd.C_take (m := 4) ((Kd.R_reads' (Kd.R_after (ok := (fun _ => True)) (by (with_reducible repeat (first | apply Kd.R_alloc | apply Kd.R_drewN | apply Kd.R_drew)); exact Kd.R_mono HO_781000.out (fun _ hk => ⟨trivial, hk⟩)) hg hat)).2.2) KL17.out); replace HO_781000 := AM (Kd.R_after (ok := (fun _ => True)) (by (with_reducible repeat (first | apply Kd.R_alloc | apply Kd.R_drewN | apply Kd.R_drew)); exact Kd.R_mono HO_781000.out (fun _ hk => ⟨trivial, hk⟩)) hg hat); have HO790 := AM ho; clear HO_6; clear ho hb hg hat; obtain ⟨Ao19, co19, eo19⟩ := Kd.R_slice HO790.out; subst eo19; obtain ⟨hcz20_0, hfz20_0⟩ := c1 BK776))
      refine bodyPost_ret (results_cell_row rfl _ _ gb776 43 #[.slice Ao19 y788.length co19] (0, 0) _ rfl (by (with_reducible repeat (first | refine blk_drewN ?_ _ | refine blk_drew ?_ | refine blk_alloc ?_ _)); refine blk_put (cs := #[.slice none 0 0]) ?_ 0 _ rfl; (with_reducible repeat (first | refine blk_drewN ?_ _ | refine blk_drew ?_ | refine blk_alloc ?_ _)); exact BK776.out) Try.underlying43 rfl (by kernel_rfl)) rfl ?_
      exact ⟨_, rE, by (with_reducible repeat (first | apply Kd.R_alloc | apply Kd.R_drewN | apply Kd.R_drew)); exact Kd.R_mono (Kd.R_far (p := ⟨gb776, 0, none⟩) (Kd.R_types HO790.out BK776.out (by decide)) (fun _ hk => hk.2) (.slice Ao19 y788.length co19)) (fun _ hk => trivial), bH HB⟩
     ·rw [if_neg c14] at H
      exact absurd H (by simp)
    ·rw [if_neg c13] at H
     exact absurd H (by simp)

def rf08_Is.f (k : Nat) (l0_0 : List Int) (a1 : Int) (a2 : Int) : Option (Bool) := (rf08_From.f k a1 a2).bind fun t792 => ((rf08_Cmp.f k l0_0 t792).bind fun t795 => (some (t795 == 0)))
theorem rf08_Is.mono : ∀ a0 a1 a2 k, LeO (rf08_Is.f k a0 a1 a2) (rf08_Is.f (k + 1) a0 a1 a2) := by
 intro a0 a1 a2 k
 unfold rf08_Is.f
 repeat' first
   | (with_reducible exact rf08_Cmp.mono _ _ _)
   | (with_reducible exact rf08_From.mono _ _ _)
   | (with_reducible exact LeO.refl _)
   | (with_reducible exact LeO.none _)
   | (with_reducible refine LeO.ite ?_ ?_)
   | (with_reducible refine LeO.bind ?_ (fun _ => ?_))
   | exact rf08_Cmp.mono _ _ _
   | exact rf08_From.mono _ _ _
   | exact LeO.none _
   | refine LeO.ite ?_ ?_
   | refine LeO.bind ?_ (fun _ => ?_)
set_option maxHeartbeats 8000000 in
set_option maxRecDepth 100000 in
theorem rf08_Is.calls (k : Nat) (A0_0 : Option Addr) (c0_0 : Nat) (l0_0 : List Int) (a1 : Int) (a2 : Int) (r : Bool) (w : World) (hr0_0 : Kd.C (Kd.int .i64) w A0_0 l0_0.length l0_0) (hc0_0 : l0_0.length ≤ c0_0) (h : rf08_Is.f k l0_0 a1 a2 = some r) :
  Calls Try.prog 21 #[.agg #[.slice A0_0 l0_0.length c0_0], .int .i64 a1, .int .u64 a2] w fun e w' => e = .returned (.bool r) ∧ Below w.heap.size w w' := by
 have hu43 := Try.underlying43
 have HR0_0 := AM hr0_0
 have HC0_0 := AM hc0_0
 clear hr0_0 hc0_0
 have HB := AM (Below.refl w.heap.size w)
 have H : ((rf08_From.f k a1 a2).bind fun t792 => ((rf08_Cmp.f k l0_0 t792).bind fun t795 => (some (t795 == 0)))) = some r := h
 clear h
 obtain ⟨t792, A4, H⟩ := bS H
 obtain ⟨t795, A5, H⟩ := bS H
 obtain rfl := Option.some.inj H
 go_enter Try.func21, Try.ntmps21
 try go_wp2_with (first | ((with_reducible refine gate_dst (N := 3) rfl ?_); refine bE 3 #[.slice A0_0 l0_0.length c0_0] 43 ?_; intro gb791 hg w6 hbox hb; have BK791 := AM hbox; have GW791 := kG HB hg; replace HB := kH HB hb; have GE791 := GW791; clear hb hbox hg))
 replace BK791 := dB BK791; replace HB := dH HB
 refine sP 7 (S := fun w' => w'.cell? ⟨gb791, 0, none⟩ = some (.slice A0_0 l0_0.length c0_0)) (ds := []) (bC BK791) fun hHeld => ?_
 generalize w6.drew = w7 at BK791 HB hHeld ⊢
 refine pP 1 (some 8) ?_; refine pP 2 (some 9) ?_; refine tP 0 (some 7) hHeld ?_
 refine oP 3 (some 10) rfl fun K hK => ?_
 refine gO Try.func50 #[.int .i64 a1, .int .u64 a2] ?_
 with_reducible refine (rf08_From.calls k a1 a2 t792 _ A4.out).mono ?_
 rintro e w8 ⟨v793, rfl, ho0, hb⟩
 refine ⟨_, rfl, ?_⟩
 have HO794 := AM (Kd.R_lower ho0 (below_size (bH HB)))
 replace BK791 := kB BK791 hb; replace HB := kH HB hb; (try clear hb); (try clear hb2); (try clear hk); (try clear hi); (try clear ho0)
 obtain ⟨Ao9, co9, eo9⟩ := Kd.R_slice HO794.out
 (first | subst eo9 | (injection eo9 with f1_ f2_ f3_; have f4_ := f1_.symm; have f5_ := f3_.symm; clear f1_ f2_ f3_; subst f4_; subst f5_))
 refine hK.out _ _ (bC BK791) (fun hHeld => ?_)
 clear hK K; refine nP (some 10) ?_
 refine oP 4 (some 11) rfl fun K hK => ?_
 refine gO Try.func49 #[.agg #[.slice A0_0 l0_0.length c0_0], .agg #[.slice Ao9 t792.length co9]] ?_
 with_reducible refine (rf08_Cmp.calls k _ _ l0_0 _ _ t792 t795 _ ?side1 ?side2 ?side3 ?side4 A5.out).mono ?_
 (case side1 => exact sC HR0_0 HB)
 (case side2 => exact HC0_0.out)
 (case side3 => exact sR HO794)
 (case side4 => exact (Kd.R_reads' HO794.out).2.1)
 rintro e w10 ⟨rfl, hb⟩
 refine ⟨_, rfl, ?_⟩
 replace HO794 := kR HO794 hb; replace BK791 := kB BK791 hb; replace HB := kH HB hb; (try clear hb); (try clear hb2); (try clear hk); (try clear hi)
 refine hK.out _ _ (bC BK791) (fun hHeld => ?_)
 clear hK K; refine nP (some 11) ?_; refine pP 5 (some 12) ?_; refine pP 6 (some 6) ?_
 refine done_ (by kernel_rfl) ?_
 try go_wp2
 go_ret
 exact ⟨rE, bH HB⟩
end Go.Proofs.Ytbonkedecfjmdaa.P

namespace Go.Proofs.Ytbonkedecfjmdaa.WL
set_option linter.unusedVariables false
set_option linter.unusedSimpArgs false
open Go.RowKit Go.Proofs.Ytbonkedecfjmdaa.P Go.Proofs.Ytbonkedecfjmdaa.X Go.Proofs.YtbonkedecfjmdaaW.PrintWords Go.Proofs.YtbonkedecfjmdaaW.PrintLast Go.Proofs.YtbonkedecfjmdaaW.PrintMore
theorem Of_l0 : ∀ (n k : Nat) (x : Int) (acc : List Int) (i : Int), i = 8 - (n : Int) → 0 ≤ i → n < k → acc.length ≤ 8 - n → -9223372036854775808 ≤ x → x ≤ 9223372036854775807 →
  rf08_Of.l0 k x acc i = some (acc ++ digs n x) := by
 intro n
 induction n with
 | zero =>
  intro k x acc i hi _ hk _ _ _
  obtain ⟨k, rfl⟩ : ∃ m, k = m + 1 := ⟨k - 1, by omega⟩
  simp only [rf08_Of.l0]; rw [if_neg (by omega)]; simp [digs]
 | succ n ih =>
  intro k x acc i hi h0 hk hl h1 h2
  obtain ⟨k, rfl⟩ : ∃ m, k = m + 1 := ⟨k - 1, by omega⟩
  have hw : wrap64 (i + 1) = i + 1 := by unfold wrap64; omega
  have key : rf08_Of.l0 k (x / 65536) (acc ++ [x % 65536]) (i + 1) = some (acc ++ digs (n + 1) x) := by
   rw [ih k (x / 65536) (acc ++ [x % 65536]) (i + 1) (by omega) (by omega) (by omega) (by simp; omega) (by omega) (by omega)]
   simp [digs]
  simp only [rf08_Of.l0]; rw [if_pos (by omega)]
  have ht := tmod65536 x
  by_cases hs : Int.tmod x 65536 < 0
  ·rw [if_pos hs, if_pos (by omega)]
   have e1 : Int.tmod x 65536 + 65536 = x % 65536 := by split at ht <;> omega
   rw [e1, w64_id (x := x % 65536) (by omega) (by omega), w64_id (x := x - x % 65536) (by omega) (by omega), show x - x % 65536 = 65536 * (x / 65536) by omega, tdiv_ex, w64_id (x := x / 65536) (by omega) (by omega), hw]
   exact key
  ·rw [if_neg hs, if_pos (by omega)]
   have e1 : Int.tmod x 65536 = x % 65536 := by split at ht <;> omega
   rw [e1, w64_id (x := x - x % 65536) (by omega) (by omega), show x - x % 65536 = 65536 * (x / 65536) by omega, tdiv_ex, w64_id (x := x / 65536) (by omega) (by omega), hw]
   exact key
theorem Of_ev {x : Int} (h1 : -9223372036854775808 ≤ x) (h2 : x ≤ 9223372036854775807) : Ev (fun k => rf08_Of.f k x) (dig x) :=
 ⟨9, fun k hk => by show rf08_Of.f k x = _; unfold rf08_Of.f; rw [Of_l0 8 k x [] 0 rfl (by omega) (by omega) (by simp) h1 h2]; rfl⟩
theorem From_l0 : ∀ (n k : Nat) (x : Int) (acc : List Int) (i : Int) (h : List Int), i = 4 - (n : Int) → 0 ≤ i → n < k → acc.length ≤ 4 - n → 0 ≤ x → x < 18446744073709551616 → h.length = 8 →
  rf08_From.l0 k x acc i h = some (acc ++ digs n x ++ h.take 4) := by
 intro n
 induction n with
 | zero =>
  intro k x acc i h hi _ hk _ _ _ hh
  obtain ⟨k, rfl⟩ : ∃ m, k = m + 1 := ⟨k - 1, by omega⟩
  simp only [rf08_From.l0]; rw [if_neg (by omega), if_pos (by omega)]
  simp only [Option.bind_some]
  rw [if_pos (by simp; omega)]; simp [digs]
 | succ n ih =>
  intro k x acc i h hi h0 hk hl h1 h2 hh
  obtain ⟨k, rfl⟩ : ∃ m, k = m + 1 := ⟨k - 1, by omega⟩
  have hw : wrap64 (i + 1) = i + 1 := by unfold wrap64; omega
  simp only [rf08_From.l0]; rw [if_pos (by omega), if_pos (by omega), tdiv_nn h1, tmod_nn h1, u64w, hw, w64_id (by omega) (by omega), show x / 65536 % 18446744073709551616 = x / 65536 by omega]
  rw [ih k (x / 65536) _ (i + 1) h (by omega) (by omega) (by omega) (by simp; omega) (by omega) (by omega) hh]
  simp [digs]
theorem From_ev {hi lo : Int} (h1 : -9223372036854775808 ≤ hi) (h2 : hi ≤ 9223372036854775807) (h3 : 0 ≤ lo) (h4 : lo < 18446744073709551616) :
  Ev (fun k => rf08_From.f k hi lo) (dig (hi * 18446744073709551616 + lo)) := by
 unfold rf08_From.f
 refine Ev.bind (f := fun n a => rf08_From.l0 n lo ([] : List Int) 0 a) (Of_ev h1 h2) ⟨5, fun k hk => ?_⟩
 show rf08_From.l0 k lo [] 0 _ = _
 rw [From_l0 4 k lo [] 0 _ rfl (by omega) (by omega) (by simp) h3 h4 (digs_len _ _)]
 rw [List.nil_append, digs4_8 hi lo h3 h4]
theorem settled_l0 : ∀ (n k : Nat) (d acc : List Int) (c i : Int), d.length = 8 → i = 8 - (n : Int) → 0 ≤ i → n < k → acc.length ≤ 8 - n → 0 ≤ c → c ≤ 1000000000000000 → (∀ x ∈ d, 0 ≤ x ∧ x ≤ 9000000000000000000) →
  rf08_settled.l0 k d acc c i = some (acc ++ digs n (c + hor (d.drop i.toNat))) := by
 intro n
 induction n with
 | zero =>
  intro k d acc c i hd hi _ hk _ _ _ _
  obtain ⟨k, rfl⟩ : ∃ m, k = m + 1 := ⟨k - 1, by omega⟩
  simp only [rf08_settled.l0]; rw [if_neg (by omega)]; simp [digs]
 | succ n ih =>
  intro k d acc c i hd hi h0 hk hl hc hc' hr
  obtain ⟨k, rfl⟩ : ∃ m, k = m + 1 := ⟨k - 1, by omega⟩
  have hw : wrap64 (i + 1) = i + 1 := by unfold wrap64; omega
  have hlt : i.toNat < d.length := by omega
  have hx := hr d[i.toNat] (List.getElem_mem hlt)
  have hrd : rd d i = d[i.toNat] := by unfold rd; rw [List.getD_eq_getElem?_getD, List.getElem?_eq_getElem hlt]; rfl
  simp only [rf08_settled.l0]; rw [if_pos (by omega), if_pos (by omega), if_pos (by omega), if_pos (by omega), hrd]
  generalize hX : d[i.toNat] = X at *
  rw [w64_id (x := c + X) (by omega) (by omega), tmod_nn (by omega), tdiv_nn (by omega), w64_id (by omega) (by omega), hw]
  rw [ih k d _ _ (i + 1) hd (by omega) (by omega) (by omega) (by simp; omega) (by omega) (by omega) hr]
  rw [List.drop_eq_getElem_cons hlt, hX, show (i + 1).toNat = i.toNat + 1 by omega]
  simp only [hor, digs, List.append_assoc, List.cons_append, List.nil_append]
  generalize hor (d.drop (i.toNat + 1)) = R
  rw [show (c + (X + 65536 * R)) % 65536 = (c + X) % 65536 by omega, show (c + (X + 65536 * R)) / 65536 = (c + X) / 65536 + R by omega]
theorem settled_ev {d : List Int} (hd : d.length = 8) (hr : ∀ x ∈ d, 0 ≤ x ∧ x ≤ 9000000000000000000) : Ev (fun k => rf08_settled.f k d) (dig (hor d)) :=
 ⟨9, fun k hk => by
  show rf08_settled.f k d = _
  unfold rf08_settled.f
  rw [settled_l0 8 k d [] 0 0 hd rfl (by omega) (by omega) (by simp) (by omega) (by omega) hr]; simp⟩
theorem Cmp_j1 (k : Nat) (i x y : Int) (a b : List Int) : rf08_Cmp.j1 (k + 1) i x y a b = if x < y then some (-1) else if x > y then some 1 else rf08_Cmp.l0 k (wrap64 (i - 1)) a b := by
 simp only [rf08_Cmp.j1]
theorem Cmp_l0 : ∀ (n k : Nat) (a b : List Int), n ≤ 7 → a.length = 8 → b.length = 8 → (∀ d ∈ a, 0 ≤ d ∧ d < 65536) → (∀ d ∈ b, 0 ≤ d ∧ d < 65536) → 2 * n < k →
  rf08_Cmp.l0 k ((n : Int) - 1) a b = some (cmp3 (hor (a.take n)) (hor (b.take n))) := by
 intro n
 induction n with
 | zero =>
  intro k a b _ _ _ _ _ hk
  obtain ⟨k, rfl⟩ : ∃ m, k = m + 1 := ⟨k - 1, by omega⟩
  simp only [rf08_Cmp.l0]; rw [if_neg (by omega)]; simp [hor, cmp3]
 | succ n ih =>
  intro k a b hn ha hb hda hdb hk
  obtain ⟨k, rfl⟩ : ∃ m, k = m + 2 := ⟨k - 2, by omega⟩
  simp only [rf08_Cmp.l0]
  rw [if_pos (by omega), if_pos (by omega), if_pos (by omega), if_pos (by omega), if_neg (by omega), Cmp_j1]
  have hA : n < a.length := by omega
  have hB : n < b.length := by omega
  have e1 : (((n + 1 : Nat) : Int) - 1).toNat = n := by omega
  rw [rd_eq a _ (by omega), rd_eq b _ (by omega)]
  simp only [e1]
  rw [hor_take a n hA, hor_take b n hB, show wrap64 (((n + 1 : Nat) : Int) - 1 - 1) = (n : Int) - 1 by unfold wrap64; omega]
  rw [ih k a b (by omega) ha hb hda hdb (by omega)]
  have u := hor_range (a.take n) fun d hd => hda d (List.mem_of_mem_take hd)
  have v := hor_range (b.take n) fun d hd => hdb d (List.mem_of_mem_take hd)
  rw [show (a.take n).length = n by simp; omega] at u
  rw [show (b.take n).length = n by simp; omega] at v
  generalize hor (a.take n) = U at *
  generalize hor (b.take n) = V at *
  generalize a[n] = X at *
  generalize b[n] = Y at *
  have hP : (0 : Int) < 65536 ^ n := Int.pow_pos (by decide)
  generalize (65536 : Int) ^ n = P at *
  unfold cmp3
  by_cases h1 : X < Y
  ·have := Int.mul_le_mul_of_nonneg_right (show X + 1 ≤ Y by omega) (Int.le_of_lt hP)
   rw [Int.add_mul] at this
   rw [if_pos h1, if_pos (by omega)]
  ·by_cases h2 : Y < X
   ·have := Int.mul_le_mul_of_nonneg_right (show Y + 1 ≤ X by omega) (Int.le_of_lt hP)
    rw [Int.add_mul] at this
    rw [if_neg h1, if_pos h2, if_neg (by omega), if_pos (by omega)]
   ·have : X = Y := by omega
    subst this
    rw [if_neg h1, if_neg h2]
    congr 1
    generalize X * P = Q
    split <;> split <;> first | rfl | omega | (split <;> first | rfl | omega)
theorem Cmp_ev (x y : Int) : Ev (fun k => rf08_Cmp.f k (dig x) (dig y)) (cmp3 (off x) (off y)) := ⟨20, fun k hk => by
 obtain ⟨k, rfl⟩ : ∃ m, k = m + 2 := ⟨k - 2, by omega⟩
 show rf08_Cmp.f (k + 2) (dig x) (dig y) = _
 unfold rf08_Cmp.f
 simp only [rf08_Cmp.l0]
 have lx : (dig x).length = 8 := digs_len 8 x
 have ly : (dig y).length = 8 := digs_len 8 y
 have rx := digs_range 8 x
 have ry := digs_range 8 y
 rw [if_pos (by omega), if_pos (by omega), if_pos (by omega), if_pos (by omega), if_pos True.intro]
 have ex : rd (dig x) 7 = x / 65536 / 65536 / 65536 / 65536 / 65536 / 65536 / 65536 % 65536 := rfl
 have ey : rd (dig y) 7 = y / 65536 / 65536 / 65536 / 65536 / 65536 / 65536 / 65536 % 65536 := rfl
 rw [ex, ey, w64_id (by omega) (by omega), w64_id (by omega) (by omega), tmod_nn (by omega), tmod_nn (by omega), Cmp_j1, show wrap64 (7 - 1) = ((7 : Nat) : Int) - 1 by unfold wrap64; omega]
 rw [Cmp_l0 7 k (dig x) (dig y) (by omega) lx ly rx ry (by omega)]
 have tx := top_turned x
 have ty := top_turned y
 have u := hor_range (digs 7 x) (digs_range 7 x)
 have v := hor_range (digs 7 y) (digs_range 7 y)
 rw [show List.take 7 (dig x) = digs 7 x from rfl, show List.take 7 (dig y) = digs 7 y from rfl]
 rw [digs_len] at u v
 rw [← tx, ← ty]
 have e7 : (65536 : Int) ^ 7 = 5192296858534827628530496329220096 := by decide
 rw [e7] at *
 generalize hor (digs 7 x) = U at *
 generalize hor (digs 7 y) = V at *
 generalize (x / 65536 / 65536 / 65536 / 65536 / 65536 / 65536 / 65536 % 65536 + 32768) % 65536 = X at *
 generalize (y / 65536 / 65536 / 65536 / 65536 / 65536 / 65536 / 65536 % 65536 + 32768) % 65536 = Y at *
 unfold cmp3
 by_cases h1 : X < Y
 ·rw [if_pos h1, if_pos (by omega)]
 ·by_cases h2 : X > Y
  ·rw [if_neg h1, if_pos h2, if_neg (by omega), if_pos (by omega)]
  ·rw [if_neg h1, if_neg h2]
   congr 1
   split <;> split <;> first | rfl | omega | (split <;> first | rfl | omega)⟩
theorem Is_ev {x hi lo : Int} (h1 : -9223372036854775808 ≤ hi) (h2 : hi ≤ 9223372036854775807) (h3 : 0 ≤ lo) (h4 : lo < 18446744073709551616) (h : (x - (hi * 18446744073709551616 + lo)) % 340282366920938463463374607431768211456 = 0) :
  Ev (fun k => rf08_Is.f k (dig x) hi lo) true := by
 unfold rf08_Is.f
 refine Ev.bind (f := fun n t => (rf08_Cmp.f n (dig x) t).bind fun t131 => (some (t131 == 0))) (From_ev h1 h2 h3 h4) ?_
 refine Ev.bind (f := fun n t => some (t == 0)) (Cmp_ev _ _) ?_
 rw [(cmp3_eq0 _ _).2 (off_eq.2 h)]
 exact Ev.now true
theorem Add_l0 : ∀ (n : Nat) (acc a b : List Int) (i : Nat), i + n = 8 → acc.length = i → a.length = 8 → b.length = 8 → (∀ d ∈ a, 0 ≤ d ∧ d < 65536) → (∀ d ∈ b, 0 ≤ d ∧ d < 65536) → (∀ d ∈ acc, 0 ≤ d ∧ d ≤ 9000000000000000000) →
  Ev (fun k => rf08_Add.l0 k acc (i : Int) a b) (dig (hor (acc ++ List.zipWith (· + ·) (a.drop i) (b.drop i)))) := by
 intro n
 induction n with
 | zero =>
  intro acc a b i hi hl ha hb hda hdb hacc
  obtain rfl : i = 8 := by omega
  refine Ev.step (f := fun k => (rf08_settled.f k acc).bind fun t217 => (some t217)) (fun k => by simp only [rf08_Add.l0]; rw [if_neg (by omega)]) ?_
  rw [List.drop_of_length_le (by omega), List.zipWith_nil_left, List.append_nil]
  exact Ev.bind (f := fun _ t => some t) (settled_ev hl hacc) (Ev.now _)
 | succ n ih =>
  intro acc a b i hi hl ha hb hda hdb hacc
  have hA : i < a.length := by omega
  have hB : i < b.length := by omega
  have ra := hda _ (List.getElem_mem hA)
  have rb := hdb _ (List.getElem_mem hB)
  refine Ev.step (f := fun k => rf08_Add.l0 k (acc ++ [a[i] + b[i]]) ((i + 1 : Nat) : Int) a b) (fun k => ?_) ?_
  ·simp only [rf08_Add.l0]
   rw [if_pos (by omega), if_pos (by omega), if_pos (by omega), if_pos (by omega), if_pos (by omega), rd_nat a i hA, rd_nat b i hB, w64_id (by omega) (by omega), w64_succ i (by omega)]
  ·have := ih (acc ++ [a[i] + b[i]]) a b (i + 1) (by omega) (by simp; omega) ha hb hda hdb (fun d hd => by
    simp only [List.mem_append, List.mem_singleton] at hd
    rcases hd with hd | rfl
    ·exact hacc d hd
    ·omega)
   rw [List.drop_eq_getElem_cons hA, List.drop_eq_getElem_cons hB, List.zipWith_cons_cons]
   rw [List.append_assoc] at this
   exact this
theorem Add_ev (x y : Int) : Ev (fun k => rf08_Add.f k (dig x) (dig y)) (dig (x + y)) := by
 have := Add_l0 8 [] (dig x) (dig y) 0 rfl rfl (digs_len _ _) (digs_len _ _) (digs_range _ _) (digs_range _ _) (by simp)
 rw [List.drop_zero, List.drop_zero, List.nil_append, hor_zip _ _ (by rw [digs_len, digs_len])] at this
 obtain ⟨q, hq⟩ := hor_digs 8 x
 obtain ⟨p, hp⟩ := hor_digs 8 y
 have e : dig (hor (dig x) + hor (dig y)) = dig (x + y) := digs_congr ⟨-q - p, by
  show hor (digs 8 x) + hor (digs 8 y) = _
  rw [hq, hp, Int.sub_mul, Int.neg_mul]; omega⟩
 rw [e] at this
 exact this
theorem Mul_in (a b : List Int) (ha : a.length = 8) (hb : b.length = 8) (hda : ∀ d ∈ a, 0 ≤ d ∧ d < 65536) (hdb : ∀ d ∈ b, 0 ≤ d ∧ d < 65536) (i : Nat) (hi : i < 8) (T : Int)
  (out : ∀ (d : List Int) (c : Int), d.length = 8 → (∀ x ∈ d, 0 ≤ x ∧ x ≤ c) → c + (7 - (i : Int)) * 9 * 4294836225 ≤ 9000000000000000000 → Ev (fun k => rf08_Mul.l0 k d ((i + 1 : Nat) : Int) a b) (dig (hor d + T))) :
  ∀ (n kk : Nat) (d : List Int) (c : Int), i + kk + n = 8 → d.length = 8 → (∀ x ∈ d, 0 ≤ x ∧ x ≤ c) → c + ((n : Int) + (7 - (i : Int)) * 9) * 4294836225 ≤ 9000000000000000000 →
   Ev (fun k => rf08_Mul.l1 k d (i : Int) (kk : Int) a b) (dig (hor d + a[i] * 65536 ^ (i + kk) * hor (b.drop kk) + T)) := by
 intro n
 induction n with
 | zero =>
  intro kk d c hk hd hr hc
  refine Ev.step (f := fun k => rf08_Mul.l0 k d ((i + 1 : Nat) : Int) a b) (fun k => ?_) ?_
  ·simp only [rf08_Mul.l1]
   rw [show wrap64 ((i : Int) + kk) = 8 by unfold wrap64; omega, if_neg (by omega), w64_succ i (by omega)]
  ·have e : dig (hor d + a[i] * 65536 ^ (i + kk) * hor (b.drop kk) + T) = dig (hor d + T) := digs_congr ⟨a[i] * hor (b.drop kk), by
    rw [show i + kk = 8 by omega]; exact ring1 _ _ _ _ _⟩
   rw [e]
   exact out d c hd hr (by omega)
 | succ n ih =>
  intro kk d c hk hd hr hc
  have hA : i < a.length := by omega
  have hB : kk < b.length := by omega
  have hD : i + kk < d.length := by omega
  have ra := hda _ (List.getElem_mem hA)
  have rb := hdb _ (List.getElem_mem hB)
  have rD := hr _ (List.getElem_mem hD)
  obtain ⟨hm0, hm1⟩ := mulb ra.1 ra.2 rb.1 rb.2
  have q1 : ((i + kk : Nat) : Int) < 8 := by clear hm0 hm1 rD hc hr; omega
  have q2 : (0 : Int) ≤ ((i + kk : Nat) : Int) := by clear hm0 hm1 rD hc hr; omega
  have q3 : ((i + kk : Nat) : Int) < (d.length : Int) := by clear hm0 hm1 rD hc hr; omega
  have q4 : (0 : Int) ≤ (i : Int) := by clear hm0 hm1 rD hc hr; omega
  have q5 : (i : Int) < (a.length : Int) := by clear hm0 hm1 rD hc hr; omega
  have q6 : (0 : Int) ≤ (kk : Int) := by clear hm0 hm1 rD hc hr; omega
  have q7 : (kk : Int) < (b.length : Int) := by clear hm0 hm1 rD hc hr; omega
  have q8 : wrap64 ((i : Int) + kk) = ((i + kk : Nat) : Int) := by clear hm0 hm1 rD hc hr; unfold wrap64; omega
  have q9 : wrap64 ((kk : Int) + 1) = ((kk + 1 : Nat) : Int) := w64_succ kk (by clear hm0 hm1 rD hc hr; omega)
  have hc1 : c + 4294836225 ≤ 9000000000000000000 := by clear hm0 hm1 rD hr q1 q2 q3 q4 q5 q6 q7 q8 q9; omega
  have hc2 : c + 4294836225 + ((n : Int) + (7 - (i : Int)) * 9) * 4294836225 ≤ 9000000000000000000 := by clear hm0 hm1 rD hr q1 q2 q3 q4 q5 q6 q7 q8 q9; omega
  have q10 : wrap64 (a[i] * b[kk]) = a[i] * b[kk] := by clear hc hc2; exact w64_id (Int.le_trans (by decide) hm0) (Int.le_trans hm1 (by decide))
  have q11 : wrap64 (d[i + kk] + a[i] * b[kk]) = d[i + kk] + a[i] * b[kk] := w64_id (Int.le_trans (by decide) (Int.add_nonneg rD.1 hm0)) (Int.le_trans (Int.add_le_add rD.2 hm1) (Int.le_trans hc1 (by decide)))
  refine Ev.step (f := fun k => rf08_Mul.l1 k (d.set (i + kk) (d[i + kk] + a[i] * b[kk])) (i : Int) ((kk + 1 : Nat) : Int) a b) (fun k => ?_) ?_
  ·simp only [rf08_Mul.l1]
   rw [q8, if_pos q1, if_pos q2, if_pos q3, if_pos q4, if_pos q5, if_pos q6, if_pos q7, rd_nat a i hA, rd_nat b kk hB, rd_nat d (i + kk) hD, q10, q11, q9, Int.toNat_natCast]
  ·have := ih (kk + 1) (d.set (i + kk) (d[i + kk] + a[i] * b[kk])) (c + 4294836225) (by clear hm0 hm1 rD hr hc hc1 hc2 q1 q2 q3 q4 q5 q6 q7 q8 q9 q10 q11; omega) (by simpa using hd) (fun x hx => by
    rcases List.mem_or_eq_of_mem_set hx with h | rfl
    ·exact ⟨(hr x h).1, Int.le_trans (hr x h).2 (Int.le_add_of_nonneg_right (by decide))⟩
    ·exact ⟨Int.add_nonneg rD.1 hm0, Int.add_le_add rD.2 hm1⟩) hc2
   rw [hor_set d (i + kk) _ hD] at this
   rw [List.drop_eq_getElem_cons hB]
   simp only [hor]
   have e : hor d + (d[i + kk] + a[i] * b[kk] - d[i + kk]) * 65536 ^ (i + kk) + a[i] * 65536 ^ (i + (kk + 1)) * hor (b.drop (kk + 1)) + T
     = hor d + a[i] * 65536 ^ (i + kk) * (b[kk] + 65536 * hor (b.drop (kk + 1))) + T := by
    rw [show i + (kk + 1) = (i + kk) + 1 by omega, Int.pow_succ]; exact ring2 _ _ _ _ _ _ _
   rw [e] at this
   exact this
theorem Mul_l0 (a b : List Int) (ha : a.length = 8) (hb : b.length = 8) (hda : ∀ d ∈ a, 0 ≤ d ∧ d < 65536) (hdb : ∀ d ∈ b, 0 ≤ d ∧ d < 65536) :
  ∀ (n i : Nat) (d : List Int) (c : Int), i + n = 8 → d.length = 8 → (∀ x ∈ d, 0 ≤ x ∧ x ≤ c) → c + (8 - (i : Int)) * 9 * 4294836225 ≤ 9000000000000000000 →
   Ev (fun k => rf08_Mul.l0 k d (i : Int) a b) (dig (hor d + 65536 ^ i * hor (a.drop i) * hor b)) := by
 intro n
 induction n with
 | zero =>
  intro i d c hi hd hr hc
  obtain rfl : i = 8 := by omega
  refine Ev.step (f := fun k => (rf08_settled.f k d).bind fun t149 => (some t149)) (fun k => by simp only [rf08_Mul.l0]; rw [if_neg (by omega)]) ?_
  rw [List.drop_of_length_le (by omega)]
  simp only [hor, Int.mul_zero, Int.zero_mul, Int.add_zero]
  exact Ev.bind (f := fun _ t => some t) (settled_ev hd fun x hx => by have := hr x hx; omega) (Ev.now _)
 | succ n ih =>
  intro i d c hi hd hr hc
  have hA : i < a.length := by omega
  refine Ev.step (f := fun k => rf08_Mul.l1 k d (i : Int) ((0 : Nat) : Int) a b) (fun k => by simp only [rf08_Mul.l0]; rw [if_pos (by omega)]; rfl) ?_
  have := Mul_in a b ha hb hda hdb i (by omega) (65536 ^ (i + 1) * hor (a.drop (i + 1)) * hor b) (fun d' c' h1 h2 h3 => ih (i + 1) d' c' (by omega) h1 h2 (by omega)) (8 - i) 0 d c (by omega) hd hr (by omega)
  rw [List.drop_eq_getElem_cons hA]
  simp only [hor]
  have e : hor d + a[i] * 65536 ^ (i + 0) * hor (b.drop 0) + 65536 ^ (i + 1) * hor (a.drop (i + 1)) * hor b = hor d + 65536 ^ i * (a[i] + 65536 * hor (a.drop (i + 1))) * hor b := by
   rw [Nat.add_zero, List.drop_zero, Int.pow_succ]; exact ring3 _ _ _ _ _
  rw [e] at this
  exact this
theorem Mul_ev (x y : Int) : Ev (fun k => rf08_Mul.f k (dig x) (dig y)) (dig (x * y)) := by
 have := Mul_l0 (dig x) (dig y) (digs_len _ _) (digs_len _ _) (digs_range _ _) (digs_range _ _) 8 0 (List.replicate 8 0) 0 rfl (by simp) (by simp) (by omega)
 refine Ev.congr (f := fun k => rf08_Mul.l0 k (List.replicate 8 0) 0 (dig x) (dig y)) (fun k => by unfold rf08_Mul.f; rw [if_pos (by omega)]) ?_
 obtain ⟨q, hq⟩ := hor_digs 8 x
 obtain ⟨p, hp⟩ := hor_digs 8 y
 have e : dig (hor (List.replicate 8 0) + 65536 ^ 0 * hor (List.drop 0 (dig x)) * hor (dig y)) = dig (x * y) := digs_congr ⟨q * p * 65536 ^ 8 - q * y - p * x, by
  rw [List.drop_zero, show hor (List.replicate 8 0) = 0 by decide]
  show _ + _ * hor (digs 8 x) * hor (digs 8 y) = _
  rw [hq, hp]; grind⟩
 rw [e] at this
 exact this
theorem Neg_l0 (x : Int) : ∀ (n : Nat) (acc a : List Int) (i : Nat), i + n = 8 → acc.length = i → a.length = 8 → (∀ d ∈ a, 0 ≤ d ∧ d < 65536) → acc ++ (a.drop i).map (fun d => 65535 - d) = dig (-x - 1) →
  Ev (fun k => rf08_Neg.l0 k acc (i : Int) a) (dig (-x)) := by
 intro n
 induction n with
 | zero =>
  intro acc a i hi hl ha hda he
  obtain rfl : i = 8 := by omega
  rw [List.drop_of_length_le (by omega), List.map_nil, List.append_nil] at he
  subst he
  refine Ev.step (f := fun k => (rf08_Of.f k 1).bind fun t281 => ((rf08_Add.f k (dig (-x - 1)) t281).bind fun t284 => (some t284))) (fun k => by simp only [rf08_Neg.l0]; rw [if_neg (by omega)]) ?_
  refine Ev.bind (f := fun k t281 => (rf08_Add.f k (dig (-x - 1)) t281).bind fun t284 => (some t284)) (Of_ev (by decide) (by decide)) ?_
  refine Ev.bind (f := fun _ t => some t) (Add_ev _ _) ?_
  rw [show -x - 1 + 1 = -x by omega]
  exact Ev.now _
 | succ n ih =>
  intro acc a i hi hl ha hda he
  have hA : i < a.length := by omega
  have ra := hda _ (List.getElem_mem hA)
  refine Ev.step (f := fun k => rf08_Neg.l0 k (acc ++ [65535 - a[i]]) ((i + 1 : Nat) : Int) a) (fun k => ?_) ?_
  ·simp only [rf08_Neg.l0]
   rw [if_pos (by omega), if_pos (by omega), if_pos (by omega), if_pos (by omega), rd_nat a i hA, w64_id (by omega) (by omega), w64_succ i (by omega)]
  ·refine ih _ a (i + 1) (by omega) (by simp; omega) ha hda ?_
   rw [List.drop_eq_getElem_cons hA, List.map_cons, List.append_cons] at he
   exact he
theorem Neg_ev (x : Int) : Ev (fun k => rf08_Neg.f k (dig x)) (dig (-x)) :=
 Neg_l0 x 8 [] (dig x) 0 rfl rfl (digs_len _ _) (digs_range _ _) (by rw [List.drop_zero, List.nil_append, digs_neg])
end Go.Proofs.Ytbonkedecfjmdaa.WL

namespace Go.Proofs.Ytbonkedecfjmdaa.G
set_option linter.unusedVariables false
set_option linter.unusedSimpArgs false
open Go.RowKit Go.Proofs.Ytbonkedecfjmdaa.P Go.Proofs.Ytbonkedecfjmdaa.X Go.Proofs.Ytbonkedecfjmdaa.WL Go.Proofs.YtbonkedecfjmdaaW.PrintWords Go.Proofs.YtbonkedecfjmdaaW.PrintLast Go.Proofs.YtbonkedecfjmdaaW.PrintMore
theorem rRight_l0 (l : List Pt) (hl : l.length ≤ 9223372036854775807) : ∀ (n i : Nat), i + n = l.length → Ev (fun k => rf09_Right.l0 k l (i : Int)) ((l.drop i).all rt) := by
 intro n
 induction n with
 | zero =>
  intro i hi
  rw [List.drop_of_length_le (by omega)]
  exact Ev.step (f := fun _ => some true) (fun k => by simp only [rf09_Right.l0]; rw [if_neg (by omega)]) (Ev.now _)
 | succ n ih =>
  intro i hi
  have hA : i < l.length := by omega
  rw [List.drop_eq_getElem_cons hA, List.all_cons]
  have I := ih (i + 1) (by omega)
  have q1 : (i : Int) < (l.length : Int) := by omega
  by_cases hp : rt l[i] = true
  ·rw [hp, Bool.true_and]
   obtain ⟨h1, h2, h3, h4, h5⟩ := rt_iff.1 hp
   refine Ev.step (f := fun k => rf09_Right.l0 k l ((i + 1 : Nat) : Int)) (fun k => ?_) I
   simp only [rf09_Right.l0]
   rw [if_pos q1, if_pos (by omega), rdp l i hA, if_neg (by omega), if_neg (by omega), if_neg (by omega), if_neg (by omega), if_pos h1, w64_succ i (by omega)]
  ·rw [Bool.eq_false_iff.2 hp, Bool.false_and]
   refine Ev.step (f := fun _ => some false) (fun k => ?_) (Ev.now _)
   rw [rt_iff] at hp
   simp only [rf09_Right.l0]
   rw [if_pos q1, if_pos (by omega), rdp l i hA]
   by_cases h2 : l[i].f0 < -2147483648
   ·rw [if_pos h2]
   ·rw [if_neg h2]
    by_cases h3 : l[i].f0 > 2147483647
    ·rw [if_pos h3]
    ·rw [if_neg h3]
     by_cases h4 : l[i].f1 < -2147483648
     ·rw [if_pos h4]
     ·rw [if_neg h4]
      by_cases h5 : l[i].f1 > 2147483647
      ·rw [if_pos h5]
      ·rw [if_neg h5, if_neg (by omega)]
theorem rRight_ev (l : List Pt) (hl : l.length ≤ 9223372036854775807) : Ev (fun k => rf09_Right.f k l) (l.all rt) := by
 have := rRight_l0 l hl l.length 0 (by omega)
 exact Ev.congr (f := fun k => rf09_Right.l0 k l ((0 : Nat) : Int)) (fun k => by unfold rf09_Right.f; rfl) this
theorem rprod_ev {a b : Int} (h1 : -9223372036854775808 ≤ a) (h2 : a ≤ 9223372036854775807) (h3 : -9223372036854775808 ≤ b) (h4 : b ≤ 9223372036854775807) : Ev (fun k => rf09_product.f k a b) (dig (a * b)) := by
 unfold rf09_product.f
 refine Ev.bind (Of_ev h1 h2) ?_
 refine Ev.bind (Of_ev h3 h4) ?_
 exact Ev.bind (f := fun _ t => some t) (Mul_ev a b) (Ev.now _)
theorem rTurn_ev (a b c : Pt) : Ev (fun k => rf09_Turn.f k a.f0 a.f1 a.f2 b.f0 b.f1 b.f2 c.f0 c.f1 c.f2) (if rt a && (rt b && rt c) then side a b c else 0) := by
 unfold rf09_Turn.f
 refine Ev.bind (rRight_ev [a, b, c] (by simp)) ?_
 simp only [List.all_cons, List.all_nil, Bool.and_true]
 by_cases h : (rt a && (rt b && rt c)) = true
 ·simp only [if_pos h]
  simp only [Bool.and_eq_true] at h
  obtain ⟨ha, hb, hc⟩ := h
  obtain ⟨⟨m1, m2⟩, m3, m4⟩ := cross_two ha hb hc
  obtain ⟨_, a1, a2, a3, a4⟩ := rt_iff.1 ha
  obtain ⟨_, b1, b2, b3, b4⟩ := rt_iff.1 hb
  obtain ⟨_, c1, c2, c3, c4⟩ := rt_iff.1 hc
  rw [w64_id (x := b.f0 - a.f0) (by omega) (by omega), w64_id (x := c.f1 - a.f1) (by omega) (by omega), w64_id (x := b.f1 - a.f1) (by omega) (by omega), w64_id (x := c.f0 - a.f0) (by omega) (by omega)]
  refine Ev.bind (rprod_ev (by omega) (by omega) (by omega) (by omega)) ?_
  refine Ev.bind (rprod_ev (by omega) (by omega) (by omega) (by omega)) ?_
  have C := Cmp_ev ((b.f0 - a.f0) * (c.f1 - a.f1)) ((b.f1 - a.f1) * (c.f0 - a.f0))
  rw [cmp_sub m1 m2 m3 m4] at C
  exact Ev.bind (f := fun _ t => some t) C (Ev.now _)
 ·simp only [if_neg h]; exact Ev.now _
theorem within_eq (n a b : Int) : rf09_within.f n a b = some (decide (min a b ≤ n ∧ n ≤ max a b)) := by
 unfold rf09_within.f
 by_cases h1 : a ≤ n <;> by_cases h2 : n ≤ b <;> by_cases h3 : b ≤ n <;> by_cases h4 : n ≤ a <;> simp [h1, h2, h3, h4] <;> omega
theorem rOn_ev (p a b : Pt) : Ev (fun k => rf09_On.f k p.f0 p.f1 p.f2 a.f0 a.f1 a.f2 b.f0 b.f1 b.f2) (onB p a b) := by
 unfold rf09_On.f
 refine Ev.bind (rRight_ev [p, a, b] (by simp)) ?_
 simp only [List.all_cons, List.all_nil, Bool.and_true]
 by_cases h : (rt p && (rt a && rt b)) = true
 ·simp only [if_pos h]
  simp only [Bool.and_eq_true] at h
  obtain ⟨hp, ha, hb⟩ := h
  have T := rTurn_ev a b p
  rw [ha, hb, hp] at T
  refine Ev.bind T ?_
  simp only [Bool.and_self, if_true]
  unfold onB
  simp only [hp, ha, hb, Bool.true_and, within_eq, Option.bind_some]
  by_cases h0 : side a b p = 0
  ·simp only [if_pos h0]
   have h0' := side0.1 h0
   refine Ev.congr (f := fun _ => some (decide (cross a b p = 0 ∧ (min a.f0 b.f0 ≤ p.f0 ∧ p.f0 ≤ max a.f0 b.f0) ∧ (min a.f1 b.f1 ≤ p.f1 ∧ p.f1 ≤ max a.f1 b.f1)))) (fun k => ?_) (Ev.now _)
   by_cases g1 : min a.f0 b.f0 ≤ p.f0 ∧ p.f0 ≤ max a.f0 b.f0 <;> simp [h0', g1]
  ·simp only [if_neg h0]
   have h0' : ¬ cross a b p = 0 := fun e => h0 (side0.2 e)
   rw [show decide (cross a b p = 0 ∧ (min a.f0 b.f0 ≤ p.f0 ∧ p.f0 ≤ max a.f0 b.f0) ∧ (min a.f1 b.f1 ≤ p.f1 ∧ p.f1 ≤ max a.f1 b.f1)) = false by simp [h0']]
   exact Ev.now _
 ·simp only [if_neg h]
  rw [show onB p a b = false by
   unfold onB
   cases hp : rt p <;> cases ha : rt a <;> cases hb : rt b <;> simp_all]
  exact Ev.now _

theorem rArea_l0 (l : List Pt) (hl : l.length < 4000000000000000000) (hr : l.all rt = true) : ∀ (n i : Nat) (x : Int), i + n = l.length →
  Ev (fun k => rf09_Area.l0 k l (i : Int) (dig x)) (dig (x + (((edg l).drop i).map E).sum)) := by
 intro n
 induction n with
 | zero =>
  intro i x hi
  rw [List.drop_of_length_le (by rw [edg_len]; omega)]
  simp only [List.map_nil, List.sum_nil, Int.add_zero]
  exact Ev.step (f := fun _ => some (dig x)) (fun k => by simp only [rf09_Area.l0]; rw [if_neg (by omega)]) (Ev.now _)
 | succ n ih =>
  intro i x hi
  have hA : i < l.length := by omega
  have hM : (i + 1) % l.length < l.length := Nat.mod_lt _ (by omega)
  have hE : i < (edg l).length := by rw [edg_len]; exact hA
  have q1 : (i : Int) < (l.length : Int) := by omega
  obtain ⟨_, p1, p2, p3, p4⟩ := rt_iff.1 (all_get hr i hA)
  obtain ⟨_, r1, r2, r3, r4⟩ := rt_iff.1 (all_get hr _ hM)
  have J : Ev (fun k => rf09_Area.j1 k l (i : Int) (((i + 1) % l.length : Nat) : Int) (dig x)) (dig (x + (((edg l).drop i).map E).sum)) := by
   refine Ev.step (f := fun k => (rf09_product.f k l[i].f0 l[(i + 1) % l.length].f1).bind fun t408 => ((rf08_Add.f k (dig x) t408).bind fun t411 => ((rf09_product.f k l[i].f1 l[(i + 1) % l.length].f0).bind fun t416 => ((rf08_Neg.f k t416).bind fun t419 => ((rf08_Add.f k t411 t419).bind fun t422 => (rf09_Area.l0 k l ((i + 1 : Nat) : Int) t422)))))) (fun k => ?_) ?_
   ·simp only [rf09_Area.j1]
    rw [if_pos (by omega), if_pos q1, if_pos (by omega), if_pos (by omega), rdp l i hA, rdp l _ hM, w64_succ i (by omega)]
   ·refine Ev.bind (rprod_ev (by omega) (by omega) (by omega) (by omega)) ?_
    refine Ev.bind (Add_ev _ _) ?_
    refine Ev.bind (rprod_ev (by omega) (by omega) (by omega) (by omega)) ?_
    refine Ev.bind (Neg_ev _) ?_
    refine Ev.bind (Add_ev _ _) ?_
    have := ih (i + 1) (x + E (edg l)[i]) (by omega)
    rw [List.drop_eq_getElem_cons hE, List.map_cons, List.sum_cons, ← Int.add_assoc]
    rw [show x + l[i].f0 * l[(i + 1) % l.length].f1 + -(l[i].f1 * l[(i + 1) % l.length].f0) = x + E (edg l)[i] by rw [edg_get l i hA]; simp only [E]; omega]
    exact this
  by_cases hlast : i + 1 = l.length
  ·refine Ev.step (fun k => ?_) J
   simp only [rf09_Area.l0]
   rw [if_pos q1, w64_succ i (by omega), if_pos (by omega)]
   rw [show (i + 1) % l.length = 0 by rw [hlast, Nat.mod_self]]; rfl
  ·refine Ev.step (fun k => ?_) J
   simp only [rf09_Area.l0]
   rw [if_pos q1, w64_succ i (by omega), if_neg (by omega)]
   rw [show (i + 1) % l.length = i + 1 from Nat.mod_eq_of_lt (by omega)]
theorem rArea_ev (l : List Pt) (hl : l.length < 4000000000000000000) : Ev (fun k => rf09_Area.f k l) (if l.all rt then dig (areaS l) else dig 0) := by
 unfold rf09_Area.f
 refine Ev.bind (Of_ev (x := 0) (by decide) (by decide)) ?_
 refine Ev.bind (rRight_ev l (by omega)) ?_
 by_cases h : l.all rt = true
 ·simp only [if_pos h]
  have := rArea_l0 l hl h l.length 0 0 (by omega)
  rw [List.drop_zero, Int.zero_add] at this
  exact this
 ·simp only [if_neg h]; exact Ev.now _
theorem rArea_val (l : List Pt) (hl : l.length < 4000000000000000000) : Ev (fun k => rf09_Area.f k l) (dig (areaV l)) := by
 have := rArea_ev l hl
 unfold areaV
 split at this
 ·rename_i h; rw [if_pos h]; exact this
 ·rename_i h; rw [if_neg h]; exact this
theorem isnum_ev (x : Int) : Ev (fun k => rf08_Is.f k (dig x) (hiw x) (low x)) true := Is_ev (hiw_range x).1 (hiw_range x).2 (low_range x).1 (low_range x).2 (val_mod x)
end Go.Proofs.Ytbonkedecfjmdaa.G
