/- Numbers in as few bytes as they need: several of them. No condition. Bytes wrapped: Wrap. No condition. Written for this claim by a program of this session (a turned copy of the print): Go functions as Lean functions, and that the Go code comes to just these answers; or a statement proved out of them. No condition. -/
import Derived.Test.YtbdbobjdlomjnaaGreatDoorZ9
import Derived.Test.YtbdbobjdlomjnaaGreatDoorZ10
import Derived.Test.YtbdbobjdlomjnaaGreatDoorZ2
import Derived.Test.YtbdbobjdlomjnaaGreatDoorZ8

namespace Go.Proofs.YtbdbobjdlomjnaaGreatDoor.Ec
set_option linter.unusedVariables false
set_option linter.unusedSimpArgs false
open Go Go.RowKit Go.Proofs.YtbdbobjdlomjnaaGreatDoor.P Go.Proofs.YtbdbobjdlomjnaaGreatDoor.C Go.Proofs.YtbdbobjdlomjnaaGreatDoor.Fv Go.Proofs.YtbdbobjdlomjnaaGreatDoorW.PrintWords Go.Proofs.YtbdbobjdlomjnaaGreatDoorW.PrintLast Go.Proofs.YtbdbobjdlomjnaaGreatDoorW.PrintMore
theorem put_step (L out : List Int) (i n : Nat) (hL : rd L (i : Int) = (n : Int)) (hi : i < L.length) (hs : L.length ≤ 1000) (h : n < 16384) (ho : out.length ≤ 1000000) {v : List Int} (hn : Ev (fun k => vint_Put.l0 k (out ++ putN n) L (L.length : Int) ((i + 1 : Nat) : Int)) v) : Ev (fun k => vint_Put.l0 k out L (L.length : Int) (i : Int)) v := by
 have w01 : wrap64 ((i : Int) + 1) = ((i + 1 : Nat) : Int) := by rw [w64 (by omega) (by omega)]; omega
 refine Ev.step (fun k => vint_Put.l0.eq_2 _ _ _ _ _) ?_
 simp only [if_pos (show (i : Int) < (L.length : Int) by omega), if_pos (show (0 : Int) ≤ (i : Int) by omega), hL]
 refine Ev.step (fun k => vint_Put.l1.eq_2 _ _ _ _ _ _) ?_
 by_cases hk : n < 128
 ·simp only [if_neg (show ¬ ((n : Int) ≥ 128) by omega), if_pos (show out.length < 140737488355328 by omega), w01]
  unfold putN at hn
  rw [if_pos hk] at hn
  rw [show (n : Int) % 256 = (n : Int) by omega]
  exact hn
 ·simp only [if_pos (show ((n : Int) ≥ 128) by omega), if_pos (show out.length < 140737488355328 by omega)]
  refine Ev.step (fun k => vint_Put.l1.eq_2 _ _ _ _ _ _) ?_
  have hl1 : ∀ x : Int, (out ++ [x]).length < 140737488355328 := fun x => by rw [List.length_append, one_len]; omega
  simp only [if_neg (show ¬ ((n : Int) / 128 ≥ 128) by omega), if_pos (hl1 _), w01]
  unfold putN at hn
  rw [if_neg hk] at hn
  have e1 := or_byte (n % 256) (by omega)
  rw [show ((n % 256 : Nat) : Int) = (n : Int) % 256 by omega] at e1
  rw [e1, show (n : Int) / 128 % 256 = ((n / 128 : Nat) : Int) by omega, show n % 256 % 128 = n % 128 by omega, List.append_assoc]
  exact hn
theorem put2_ev (n m : Nat) (h : n < 16384) (h' : m < 16384) : Ev (fun k => vint_Put.f k [(n : Int), (m : Int)]) (putN n ++ putN m) := by
 unfold vint_Put.f
 show Ev (fun k => vint_Put.l0 k [] [(n : Int), (m : Int)] (([(n : Int), (m : Int)].length : Nat) : Int) ((0 : Nat) : Int)) _
 refine put_step _ _ 0 n rfl (by simp) (by simp) h (by simp) ?_
 refine put_step _ _ 1 m rfl (by simp) (by simp) h' (by simp [putN_len]; split <;> omega) ?_
 refine Ev.step (fun k => vint_Put.l0.eq_2 _ _ _ _ _) ?_
 rw [List.nil_append]
 simp
 exact Ev.now _
theorem put1_ev (n : Nat) (h : n < 16384) : Ev (fun k => vint_Put.f k [(n : Int)]) (putN n) := by
 have := put_ev n h
 rwa [u64_small n (by omega)] at this
end Go.Proofs.YtbdbobjdlomjnaaGreatDoor.Ec

namespace Go.Proofs.YtbdbobjdlomjnaaGreatDoor.Ec
set_option linter.unusedVariables false
set_option linter.unusedSimpArgs false
open Go Go.RowKit Go.Proofs.YtbdbobjdlomjnaaGreatDoor.P Go.Proofs.YtbdbobjdlomjnaaGreatDoor.X Go.Proofs.YtbdbobjdlomjnaaGreatDoor.Fv Go.Proofs.YtbdbobjdlomjnaaGreatDoorW.PrintWords Go.Proofs.YtbdbobjdlomjnaaGreatDoorW.PrintLast Go.Proofs.YtbdbobjdlomjnaaGreatDoorW.PrintMore
set_option maxHeartbeats 8000000
set_option maxRecDepth 100000
theorem C_lit (k : IntKind) (w : World) (g : Nat) (xs : List Int) (cs : Array Value) (t : TypeId) (fr : Nat × Nat) (hg : w.heap[g]? = some (.cells cs t fr)) (hc : cs = (xs.map (Value.int k)).toArray) (hl : xs.length ≤ 9223372036854775807) : Kd.C (Kd.int k) w (some ⟨g, 0, none⟩) xs.length xs := by
 refine ⟨rfl, hl, fun _ => ⟨⟨g, 0, none⟩, rfl, fun j p hp => ⟨[.int k p], rfl, rfl, fun i u hu => ?_⟩⟩⟩
 have hi : i = 0 := by
  cases i with
  | zero => rfl
  | succ i => simp at hu
 subst hi
 have hu' : Value.int k p = u := by simpa using hu
 subst hu'
 have e : (Addr.add ⟨g, 0, none⟩ (j * (Kd.int k).sz + 0)) = ⟨g, j, none⟩ := by
  have : (Kd.int k).sz = 1 := rfl
  rw [this, Addr.add_mid]; simp
 rw [e, cell_of_row w g j cs t fr hg, hc]
 simp [hp]
theorem wrap_calls (w : World) (A : Option Addr) (c : Nat) (l : List Int) (hl : ∀ x ∈ l, In x) (hn : l.length ≤ 8000) (hr : Kd.C (Kd.int .u8) w A l.length l) :
  Calls Tryz.prog 25 #[.slice A l.length c] w fun e w' => ∃ vo, e = .returned (.tuple #[vo, .int .i64 0]) ∧ Kd.R (Kd.int .u8) 5 w' w.heap.size (fun _ => True) vo (wrapV l) ∧ Below w.heap.size w w' := by
 have hpk := pack_calls w A c l hl (by omega) hr
 have hel := encV_len hl
 obtain ⟨K, hK⟩ := put2_ev l.length (encV l).length (by omega) (by omega)
 have hput := fun W A0 c0 h1 h2 => vint_Put.calls K A0 c0 [(l.length : Int), ((encV l).length : Int)] (putN l.length ++ putN (encV l).length) W h1 h2 (hK K (Nat.le_refl _))
 have hpl : (putN l.length ++ putN (encV l).length).length ≤ 4 := by
  rw [List.length_append, putN_len, putN_len]
  split <;> split <;> omega
 have hwv : wrapV l = putN l.length ++ putN (encV l).length ++ encV l := by unfold wrapV; rw [List.append_assoc]
 have HWV := Aside0.mk hwv
 clear hK hwv
 generalize putN l.length ++ putN (encV l).length = pn at *
 generalize encV l = ev at *
 go_enter Tryz.func25, Tryz.ntmps25
 go_upto_region 4 with (go_at_call 55; refine hpk.mono ?_; rintro e w1 ⟨vp, rfl, hRp, hb1⟩)
 obtain ⟨Ap, cp, rfl⟩ := Kd.R_slice hRp
 have hb2 : Below w1.heap.size w1 (w1.alloc (.cells #[.int .u64 (l.length : Int), .int .u64 (ev.length : Int)] 80)) := below_alloc (Below.refl _ w1) _
 have hg2 := heap_alloc_new w1 (.cells #[.int .u64 (l.length : Int), .int .u64 (ev.length : Int)] 80)
 have hput2 := hput _ _ 2 (C_lit .u64 _ _ [(l.length : Int), (ev.length : Int)] _ _ _ hg2 rfl (by simp)) (by simp)
 have hC1 := (Kd.R_reads' hRp).2.2
 have hplp := Kd.R_lt hRp
 clear hput hg2 hpk
 go_wp2_with (first | (go_at_call 36; refine hput2.mono ?_; rintro e w3 ⟨vq, rfl, hRq, hb3⟩) | ((with_reducible refine gate_builtin (b := .append) (xs := #[.tmp 21, .tmp 22]) rfl ?_); at_builtin; refine Kd.R_append_rows (Kd.int .u8) (w0 := w) w.heap.size rfl (.tmp 21) (.tmp 22) 26 5 (.int .u8 0) 1 rfl Tryz.underlying26 infoU rfl (by decide) (by omega) vq pn ev _ _ _ (fun _ => True) (fun _ => False) rfl rfl ?aO ?aR (fun _ _ h => h) (fun _ h => h.elim) ?aF ?aB ?aS ?aL ?_; (case aO => exact Kd.R_lower hRq (Nat.le_trans hb1.size hb2.size)); (case aR => exact Kd.C_below hC1 (below_step hb2 hb3)); (case aF => exact fun _ _ => trivial); (case aB => exact below_step hb1 (below_step hb2 hb3)); (case aS => exact (below_step hb1 (below_step hb2 hb3)).size); (case aL => omega); intro v4 w4 hR4 hb4 hg4 hat4; rw [← HWV.out] at hR4))
 go_ret2
 exact ⟨v4, rfl, hR4, hb4⟩
end Go.Proofs.YtbdbobjdlomjnaaGreatDoor.Ec

namespace Go.Proofs.YtbdbobjdlomjnaaGreatDoor.P
open Go.RowKit Go.Proofs.YtbdbobjdlomjnaaGreatDoorW.PrintWords Go.Proofs.YtbdbobjdlomjnaaGreatDoorW.PrintLast Go.Proofs.YtbdbobjdlomjnaaGreatDoorW.PrintMore Go.Proofs.YtbdbobjdlomjnaaGreatDoor.X
attribute [local go_sem] max2_int min2_int max_two min_two max_three min_three max_four min_four add64_0 add64_1 add64
set_option linter.unusedVariables false
set_option linter.unusedSimpArgs false
def rf18_put.f (k : Nat) (a0 : Int) : Option (List Int) := (rf01_Put.f k (IntKind.u64.wrap (a0))).bind fun t180 => (some t180)
theorem rf18_put.mono : ∀ a0 k, LeO (rf18_put.f k a0) (rf18_put.f (k + 1) a0) := by
 intro a0 k
 unfold rf18_put.f
 repeat' first
   | (with_reducible exact rf01_Put.mono _ _)
   | (with_reducible exact LeO.refl _)
   | (with_reducible exact LeO.none _)
   | (with_reducible refine LeO.ite ?_ ?_)
   | (with_reducible refine LeO.bind ?_ (fun _ => ?_))
   | exact rf01_Put.mono _ _
   | exact LeO.none _
   | refine LeO.ite ?_ ?_
   | refine LeO.bind ?_ (fun _ => ?_)
set_option maxHeartbeats 8000000 in
set_option maxRecDepth 100000 in
theorem rf18_put.calls (k : Nat) (a0 : Int) (r : List Int) (w : World) (h : rf18_put.f k a0 = some r) :
  Calls Tryz.prog 40 #[.int .i64 a0] w fun e w' => ∃ v0_ : Value, e = .returned (v0_) ∧ Kd.R (Kd.int .u8) 5 w' w.heap.size (fun _ => True) v0_ r ∧ Below w.heap.size w w' := by
 have HB := Aside0.mk (Below.refl w.heap.size w)
 have H : ((rf01_Put.f k (IntKind.u64.wrap (a0))).bind fun t180 => (some t180)) = some r := h
 clear h
 replace H := Option.bind_eq_some_iff.mp H
 obtain ⟨t180, A20, H⟩ := H
 replace H : (some t180) = some r := H
 have A2 := Aside0.mk A20
 clear A20
 obtain rfl := Option.some.inj H
 go_enter Tryz.func40, Tryz.ntmps40
 go_wp2_with (first | ((with_reducible refine gate_callee (f := 85) rfl ?_); refine goesL_ (some 5) rfl rfl Tryz.func85 (by kernel_rfl) rfl #[.int .u64 (IntKind.u64.wrap (a0))] rfl (by (try simp only [List.map_toArray, List.map_cons, List.map_nil]); first | done | rfl | (simp only [List.length_drop, List.length_take]; rfl)) ?_; (with_reducible refine (rf01_Put.calls k (IntKind.u64.wrap (a0)) t180 _ A2.out).mono ?_); rintro e w3 ⟨v181, rfl, ho0, hb⟩; refine ⟨_, rfl, ?_⟩; have n0_ := Aside0.mk (Kd.R_lower ho0 (below_size (bH HB))); have n1_ := Aside0.mk (below_step (bH HB) hb); clear HB; have HO182 := n0_; have HB := n1_; clear n0_ n1_; (try clear hb); (try clear hb2); (try clear hk); (try clear hi); (try clear ho0)))
 go_ret
 exact ⟨_, by first | rfl | (simp [errW_none, errW_some] <;> rfl) | (simp [*, errW_none, errW_some] <;> rfl), by (with_reducible repeat (first | apply Kd.R_alloc | apply Kd.R_drewN | apply Kd.R_drew)); exact HO182.out, bH HB⟩

def rf05_New.l0 : Nat → Int → List Int → Int → Option (List Int)
 | 0, _, _, _ => none
 | k + 1, x0, x3, x4 => if x4 < x0 then (if x3.length < 17592186044416 then (rf05_New.l0 k x0 (x3 ++ [1]) (wrap64 (x4 + 1))) else (none)) else (some x3)
def rf05_New.f (k : Nat) (a0 : Int) : Option (List Int) := rf05_New.l0 k a0 ([] : List Int) 0
theorem rf05_New.mono_l : ∀ k, (∀ y0 y1 y2, LeO (rf05_New.l0 k y0 y1 y2) (rf05_New.l0 (k + 1) y0 y1 y2))
 | 0 => fun _ _ _ r h => by simp [rf05_New.l0] at h
 | k + 1 => by
  have ih0 := rf05_New.mono_l k
  ·intro y0 y1 y2
   unfold rf05_New.l0
   repeat' first
   | (with_reducible exact ih0 _ _ _)
   | (with_reducible exact LeO.refl _)
   | (with_reducible exact LeO.none _)
   | (with_reducible refine LeO.ite ?_ ?_)
   | (with_reducible refine LeO.bind ?_ (fun _ => ?_))
   | exact ih0 _ _ _
   | exact LeO.none _
   | refine LeO.ite ?_ ?_
   | refine LeO.bind ?_ (fun _ => ?_)
theorem rf05_New.mono : ∀ a0 k, LeO (rf05_New.f k a0) (rf05_New.f (k + 1) a0) := by
 intro a0 k
 have ih0 := rf05_New.mono_l k
 unfold rf05_New.f
 repeat' first
   | (with_reducible exact ih0 _ _ _)
   | (with_reducible exact LeO.refl _)
   | (with_reducible exact LeO.none _)
   | (with_reducible refine LeO.ite ?_ ?_)
   | (with_reducible refine LeO.bind ?_ (fun _ => ?_))
   | exact ih0 _ _ _
   | exact LeO.none _
   | refine LeO.ite ?_ ?_
   | refine LeO.bind ?_ (fun _ => ?_)
set_option maxHeartbeats 8000000 in
set_option maxRecDepth 100000 in
theorem rf05_New.calls (k : Nat) (a0 : Int) (r : List Int) (w : World) (h : rf05_New.f k a0 = some r) :
  Calls Tryz.prog 159 #[.int .i64 a0] w fun e w' => ∃ v0_ : Value, e = .returned (v0_) ∧ Kd.R (Kd.int .i64) 3 w' w.heap.size (fun _ => True) v0_ r ∧ Below w.heap.size w w' := by
 have HB := Aside0.mk (Below.refl w.heap.size w)
 have H : (rf05_New.l0 k a0 ([] : List Int) 0) = some r := h
 clear h
 have H' := Aside0.mk H
 clear H
 go_enter Tryz.func159, Tryz.ntmps159
 go_wp2
 go_loopg [3, 4] k (fun kq v3 v4 w' => ∃ (x3_1 : List Int) (x4_1 : Int), v4 = .int .i64 x4_1 ∧ Aside0 (rf05_New.l0 kq a0 x3_1 x4_1 = some r) ∧ Aside0 (kq ≤ k) ∧ Aside0 (Kd.R (Kd.int .i64) 3 w' w.heap.size (fun _ => True) v3 x3_1) ∧ Aside0 (Below w.heap.size w w'))
 case atStart => exact ⟨(([] : List Int)), (0), (by first | rfl | (simp; done) | (simp [*]; done)), H', ⟨Nat.le_refl _⟩, ⟨by first | exact Kd.R_nil _ _ _ _ _ | exact Kd.N_nil _ _ _ _ _ | exact Kd.V_nil _ _ _ _ _ | exact Kd.Q_nil _ _ _ _ _ | exact Kd.S_nil _ _ _ _ _⟩, ⟨ bH HB⟩⟩
 case round =>
  clear H'
  try clear c1
  obtain ⟨x3_1, x4_1, rfl, HA, HK1, HO_3, HB⟩ := hrel
  cases gk with
  | zero => exact absurd HA.out (by simp [rf05_New.l0])
  | succ k1 =>
   have H := HA.out
   clear HA
   simp only [rf05_New.l0] at H
   by_cases c2 : x4_1 < a0
   ·rw [if_pos c2] at H
    have c2b0 : decide (x4_1 < a0) = true := decide_eq_true c2
    clear c2
    by_cases c3 : x3_1.length < 17592186044416
    ·rw [if_pos c3] at H
     have LMc3 := Aside0.mk c3
     clear c3
     obtain ⟨y183, hy183⟩ : ∃ y_ : List Int, y_ = (x3_1 ++ [1]) := ⟨_, rfl⟩
     replace H : (rf05_New.l0 k1 a0 y183 (wrap64 (x4_1 + 1))) = some r := by first | (rw [hy183]; with_reducible exact H) | (have H2_ := (Option.bind_some _ _).symm.trans H; rw [hy183]; with_reducible exact H2_) | (have H2_ := (Option.bind_some _ _).symm.trans H; with_reducible exact H2_) | with_reducible exact H | (rw [hy183]; exact H) | exact H
     have Ny183 := Aside0.mk hy183
     clear hy183
     have H' := Aside0.mk H
     clear H
     go_wp2_with (first | ((with_reducible refine gate_builtin (b := .append) (xs := #[.tmp 10, .tmp 11]) rfl ?_); at_builtin; refine Kd.R_append (Kd.int .i64) (w0 := w) w.heap.size rfl (.tmp 10) (.tmp 11) 83 3 (.int .i64 0) 8 rfl Tryz.underlying83 info3 rfl (by decide) (by omega) u3 x3_1 1 [.int .i64 1] (fun _ => True) (fun _ => False) rfl rfl ?aP (fun _ hk => hk.elim) ?aF ?aO ?aB ?aS ?aL ?_; (case aP => exact rfl); (case aB => exact (bH HB)); (case aF => exact (fun _ _ => trivial)); (case aO => exact (rK HO_3)); (case aS => exact (below_size (bH HB))); (case aL => have := LMc3.out; omega); intro v184 w4 ho hb hg hat; rw [← Ny183.out] at ho; have n0_ := Aside0.mk (hb); have n1_ := Aside0.mk (ho); clear HB; clear HO_3; have HB := n0_; have HO185 := n1_; clear n0_ n1_; clear ho hb hg hat))
     go_roundg k1
     case measure => have := HK1.out; omega
     case rel => exact ⟨(y183), (wrap64 (x4_1 + 1)), (by first | rfl | (simp; done) | (simp [*]; done)), H', ⟨by have := HK1.out; omega⟩, ⟨by (with_reducible repeat (first | apply Kd.R_alloc | apply Kd.R_drewN | apply Kd.R_drew)); exact HO185.out⟩, ⟨ bH HB⟩⟩
    ·rw [if_neg c3] at H
     exact absurd H (by simp)
   ·rw [if_neg c2] at H
    have c2b0 : decide (x4_1 < a0) = false := decide_eq_false c2
    clear c2
    obtain rfl := Option.some.inj H
    go_wp2
    go_ret
    exact ⟨_, by first | rfl | (simp [errW_none, errW_some] <;> rfl) | (simp [*, errW_none, errW_some] <;> rfl), by (with_reducible repeat (first | apply Kd.R_alloc | apply Kd.R_drewN | apply Kd.R_drew)); exact HO_3.out, bH HB⟩

def rf06_Begun.l0 : Nat → List Int → Int → List (List Int) → List Int → Int → Option ((List (List Int)) × List Int × Int × Bool)
 | 0, _, _, _, _, _ => none
 | k + 1, x0, x5, x191000, x191001, x191002 => if x5 < (x0.length : Int) then (if 0 ≤ x5 then (if (rd x0 x5) < 1 then (some (x191000, x191001, x191002, false)) else (if (rd x0 x5) > 256 then (some (x191000, x191001, x191002, false)) else ((rf05_New.f k (rd x0 x5)).bind fun t194 => (if x191000.length < 5864062014805 then (rf06_Begun.l0 k x0 (wrap64 (x5 + 1)) (x191000 ++ [t194]) x191001 x191002) else (none))))) else (none)) else (some (x191000, x191001, x191002, decide ((x0.length : Int) ≤ 16)))
def rf06_Begun.f (k : Nat) (l0 : List Int) : Option ((List (List Int)) × List Int × Int × Bool) := rf06_Begun.l0 k l0 0 ([] : List (List Int)) (([0, 0, 0, 0, 0] : List Int)) 4294967295
theorem rf06_Begun.mono_l : ∀ k, (∀ y0 y1 y2 y3 y4, LeO (rf06_Begun.l0 k y0 y1 y2 y3 y4) (rf06_Begun.l0 (k + 1) y0 y1 y2 y3 y4))
 | 0 => fun _ _ _ _ _ r h => by simp [rf06_Begun.l0] at h
 | k + 1 => by
  have ih0 := rf06_Begun.mono_l k
  ·intro y0 y1 y2 y3 y4
   unfold rf06_Begun.l0
   repeat' first
   | (with_reducible exact ih0 _ _ _ _ _)
   | (with_reducible exact rf05_New.mono _ _)
   | (with_reducible exact LeO.refl _)
   | (with_reducible exact LeO.none _)
   | (with_reducible refine LeO.ite ?_ ?_)
   | (with_reducible refine LeO.bind ?_ (fun _ => ?_))
   | exact ih0 _ _ _ _ _
   | exact rf05_New.mono _ _
   | exact LeO.none _
   | refine LeO.ite ?_ ?_
   | refine LeO.bind ?_ (fun _ => ?_)
theorem rf06_Begun.mono : ∀ a0 k, LeO (rf06_Begun.f k a0) (rf06_Begun.f (k + 1) a0) := by
 intro a0 k
 have ih0 := rf06_Begun.mono_l k
 unfold rf06_Begun.f
 repeat' first
   | (with_reducible exact ih0 _ _ _ _ _)
   | (with_reducible exact rf05_New.mono _ _)
   | (with_reducible exact LeO.refl _)
   | (with_reducible exact LeO.none _)
   | (with_reducible refine LeO.ite ?_ ?_)
   | (with_reducible refine LeO.bind ?_ (fun _ => ?_))
   | exact ih0 _ _ _ _ _
   | exact rf05_New.mono _ _
   | exact LeO.none _
   | refine LeO.ite ?_ ?_
   | refine LeO.bind ?_ (fun _ => ?_)
def rf06_Begun.T7 : Bool × List (List Nat × List Nat) := (true, [([], []), ([0], [0]), ([], []), ([], []), ([2, 3], [2, 3]), ([4], [4]), ([5], [5]), ([6], [6]), ([1, 7, 6], [1, 7]), ([0, 1, 2, 3, 4, 5, 6, 7, 8], []), ([9, 8, 8, 0, 1, 2, 3, 4, 5, 6, 7, 8], [8, 9])])
def rf06_Begun.B7 : List Nat := [0, 1, 0, 0, 12, 28, 60, 124, 255, 511, 1023]
theorem rf06_Begun.tab7 : rtab .any (opsOf Tryz.f103 7) = rf06_Begun.T7 := by kernel_rfl
theorem rf06_Begun.bits7 : waitsOk rf06_Begun.T7.2 rf06_Begun.B7 = true := by kernel_rfl
set_option maxHeartbeats 8000000 in
set_option maxRecDepth 100000 in
theorem rf06_Begun.calls (k : Nat) (A0 : Option Addr) (c0 : Nat) (l0 : List Int) (r1 : List (List Int)) (r2 : List Int) (r3 : Int) (r4 : Bool) (w : World) (hr0 : Kd.C (Kd.int .i64) w A0 l0.length l0) (hc0 : l0.length ≤ c0) (h : rf06_Begun.f k l0 = some (r1, r2, r3, r4)) :
  Calls Tryz.prog 103 #[.slice A0 l0.length c0] w fun e w' => ∃ v0_ v1_ : Value, e = .returned (.tuple #[.agg #[v0_, v1_, .int .i64 r3], .bool r4]) ∧ Kd.S (Kd.slice 3 (Kd.int .i64)) 83 w' w.heap.size (fun k_ => some k_ ≠ (v1_ : Value).ownBlock) v0_ r1 ∧ Kd.R (Kd.int .i64) 3 w' w.heap.size (fun _ => True) v1_ r2 ∧ Below w.heap.size w w' := by
 have hu184 := Tryz.underlying184
 have HR0 := Aside0.mk hr0
 have HC0 := Aside0.mk hc0
 clear hr0 hc0
 have HB := Aside0.mk (Below.refl w.heap.size w)
 have H : (rf06_Begun.l0 k l0 0 ([] : List (List Int)) (([0, 0, 0, 0, 0] : List Int)) 4294967295) = some (r1, r2, r3, r4) := h
 clear h
 obtain ⟨y187, hy187⟩ : ∃ y_ : List Int, y_ = (([0, 0, 0, 0, 0] : List Int)) := ⟨_, rfl⟩
 replace H : (rf06_Begun.l0 k l0 0 ([] : List (List Int)) y187 4294967295) = some (r1, r2, r3, r4) := by first | (rw [hy187]; with_reducible exact H) | (have H2_ := (Option.bind_some _ _).symm.trans H; rw [hy187]; with_reducible exact H2_) | (have H2_ := (Option.bind_some _ _).symm.trans H; with_reducible exact H2_) | with_reducible exact H | (rw [hy187]; exact H) | exact H
 have Ny187 := Aside0.mk hy187
 clear hy187
 have H' := Aside0.mk H
 clear H
 go_enter Tryz.func103, Tryz.ntmps103
 go_wp2_with (first | ((with_reducible refine gate_dst (N := 2) rfl ?_); refine box_event ?hg (N := 2) ?hd (cs := #[.slice none 0 0, .slice none 0 0, .int .i64 0]) (t := 184) ?hr ?_; (case hd => rfl); (case hg => rfl); (case hr => first | (go_simp; done) | (go_simp; rfl)); intro gb186 hg w2 hbox hb; have n0_ := Aside0.mk (below_step (bH HB) hb); have n1_ := Aside0.mk (hbox); have n2_ := Aside0.mk ((by rw [hg]; exact (below_size (bH HB)) : w.heap.size ≤ gb186)); have n3_ := n2_; clear HB; have HB := n0_; have BK186 := n1_; have GW186 := n2_; have GE186 := n3_; clear n0_ n1_ n2_ n3_; clear hb hbox hg) | ((with_reducible refine gate_dst (N := 6) rfl ?_); refine Kd.R_lit (Kd.int .i64) _ 3 ?hg (N := 6) ?hd (xs := ([0, 0, 0, 0, 0] : List Int)) (inner := [.int .i64 0, .int .i64 0, .int .i64 0, .int .i64 0, .int .i64 0]) (ok := fun _ => True) (okp := fun _ => True) ?hr ?hp (fun _ hk => hk) trivial (Below.refl _ _) (Nat.le_refl _) (by simp) ?_; (case hd => rfl); (case hg => rfl); (case hr => first | (go_simp; done) | (go_simp; rfl)); (case hp => exact (Reps.one (show Kd.M (Kd.int .i64) _ _ _ 0 [.int .i64 0] from rfl) (Reps.one (show Kd.M (Kd.int .i64) _ _ _ 0 [.int .i64 0] from rfl) (Reps.one (show Kd.M (Kd.int .i64) _ _ _ 0 [.int .i64 0] from rfl) (Reps.one (show Kd.M (Kd.int .i64) _ _ _ 0 [.int .i64 0] from rfl) (Reps.one (show Kd.M (Kd.int .i64) _ _ _ 0 [.int .i64 0] from rfl) (Reps.none _ _))))))); intro v188 w3 ho4 hb hg_ hnew_; clear hg_ hnew_; (first | rw [← Ny187.out] at ho4 | (simp only [Int.reduceToNat] at ho4; rw [← Ny187.out] at ho4)); have n0_ := Aside0.mk (Kd.R_lower ho4 (below_size (bH HB))); have n1_ := Aside0.mk (blk_below (g := gb186) (o := .cells #[.slice none 0 0, .slice none 0 0, .int .i64 0] 184 (0, 0)) (bK BK186) hb); have n2_ := Aside0.mk (below_step (bH HB) hb); clear BK186; clear HB; have HO189 := n0_; have BK186 := n1_; have HB := n2_; clear n0_ n1_ n2_; clear hb ho4; obtain ⟨Ao5, co5, eo5⟩ := Kd.R_slice HO189.out; subst eo5) | ((with_reducible refine gate_dst (N := 4) rfl ?_); refine box_event ?hg (N := 4) ?hd (cs := #[.slice none 0 0, .slice none 0 0, .int .i64 0]) (t := 184) ?hr ?_; (case hd => rfl); (case hg => rfl); (case hr => first | (go_simp; done) | (go_simp; rfl)); intro gb190 hg w6 hbox hb; have n0_ := Aside0.mk (Kd.R_below (rK HO189) hb); have n1_ := Aside0.mk (blk_below (g := gb186) (o := .cells #[.slice none 0 0, .slice none 0 0, .int .i64 0] 184 (0, 0)) (bK BK186) hb); have n2_ := Aside0.mk (below_step (bH HB) hb); have n3_ := Aside0.mk (hbox); have n4_ := Aside0.mk ((by rw [hg]; exact (below_size (bH HB)) : w.heap.size ≤ gb190)); have n5_ := n4_; have n6_ := Aside0.mk ((by rw [hg]; exact Nat.ne_of_lt (blk_lt (bK BK186)) : gb186 ≠ gb190)); have n7_ := Aside0.mk ((by rw [hg]; exact Nat.ne_of_gt (blk_lt (bK BK186)) : gb190 ≠ gb186)); clear HO189; clear BK186; clear HB; have HO189 := n0_; have BK186 := n1_; have HB := n2_; have BK190 := n3_; have GW190 := n4_; have GE190 := n5_; have NB186_190 := n6_; have NB190_186 := n7_; clear n0_ n1_ n2_ n3_ n4_ n5_ n6_ n7_; clear hb hbox hg; have hnb7 := NB190_186.out; have hnc7 := NB186_190.out; have hcz8_0 : w6.cell? ⟨gb190, 0, none⟩ = some (.slice none 0 0) := (blk_cell BK190.out 0).trans rfl; have hcz8_1 : w6.cell? ⟨gb190, 1, none⟩ = some (.slice none 0 0) := (blk_cell BK190.out 1).trans rfl; have hcz8_2 : w6.cell? ⟨gb190, 2, none⟩ = some (.int .i64 0) := (blk_cell BK190.out 2).trans rfl; have hfz8_0 := blk_frozen BK190.out 0; have hfz8_1 := blk_frozen BK190.out 1; have hfz8_2 := blk_frozen BK190.out 2))
 go_loopg [5] k (fun kq v5 w' => ∃ (x5_1 : Int) (x187002_1 : Int) (x191000_1 : List (List Int)) (u191000 : Value), v5 = .int .i64 x5_1 ∧ Aside0 (rf06_Begun.l0 kq l0 x5_1 x191000_1 y187 4294967295 = some (r1, r2, r3, r4)) ∧ Aside0 (kq ≤ k) ∧ Aside0 (Kd.S (Kd.slice 3 (Kd.int .i64)) 83 w' w.heap.size (fun k_ => some k_ ≠ ((.slice Ao5 y187.length co5) : Value).ownBlock) u191000 x191000_1) ∧ Aside0 (Kd.R (Kd.int .i64) 3 w' w.heap.size (fun _ => True) (.slice Ao5 y187.length co5) y187) ∧ Aside0 (w'.heap[gb186]? = some (.cells #[(.slice none 0 0), (.slice none 0 0), .int .i64 x187002_1] 184 (0, 0))) ∧ Aside0 (w'.heap[gb190]? = some (.cells #[u191000, (.slice Ao5 y187.length co5), .int .i64 4294967295] 184 (0, 0))) ∧ Aside0 (Below w.heap.size w w'))
 case atStart => exact ⟨(0), (0), (([] : List (List Int))), (.slice none 0 0), (by first | rfl | (simp; done) | (simp [*]; done)), H', ⟨Nat.le_refl _⟩, ⟨by first | exact Kd.S_nil _ _ _ _ _ | exact Kd.N_nil _ _ _ _ _ | exact Kd.V_nil _ _ _ _ _ | exact Kd.Q_nil _ _ _ _ _ | exact Kd.R_nil _ _ _ _ _⟩, ⟨by (with_reducible repeat (first | apply Kd.R_alloc | apply Kd.R_drewN | apply Kd.R_drew)); exact Kd.R_mono (Kd.R_far (p := ⟨gb190, 2, none⟩) (Kd.R_far (p := ⟨gb190, 1, none⟩) (Kd.R_far (p := ⟨gb190, 0, none⟩) (Kd.R_types HO189.out BK190.out (by decide)) (fun _ hk => hk.2) (.slice none 0 0)) (fun _ hk => hk.2) (.slice Ao5 y187.length co5)) (fun _ hk => hk.2) (.int .i64 4294967295)) (fun _ hk => trivial)⟩, ⟨bK BK186⟩, ⟨by (with_reducible repeat (first | refine blk_drewN ?_ _ | refine blk_drew ?_ | refine blk_alloc ?_ _)); refine blk_put (cs := #[.slice none 0 0, .slice Ao5 y187.length co5, .int .i64 0]) ?_ 2 _ rfl; (with_reducible repeat (first | refine blk_drewN ?_ _ | refine blk_drew ?_ | refine blk_alloc ?_ _)); refine blk_put (cs := #[.slice none 0 0, .slice none 0 0, .int .i64 0]) ?_ 1 _ rfl; (with_reducible repeat (first | refine blk_drewN ?_ _ | refine blk_drew ?_ | refine blk_alloc ?_ _)); refine blk_put (cs := #[.slice none 0 0, .slice none 0 0, .int .i64 0]) ?_ 0 _ rfl; (with_reducible repeat (first | refine blk_drewN ?_ _ | refine blk_drew ?_ | refine blk_alloc ?_ _)); exact BK190.out⟩, ⟨ bH HB⟩⟩
 case round =>
  clear H'
  try clear c1
  try clear p2
  try clear c7
  try clear hcz8_0
  try clear hcz8_1
  try clear hcz8_2
  try clear hfz8_0
  try clear hfz8_1
  try clear hfz8_2
  obtain ⟨x5_1, x187002_1, x191000_1, u191000, rfl, HA, HK1, HO_191000, HO_191001, BK186, BK190, HB⟩ := hrel
  cases gk with
  | zero => exact absurd HA.out (by simp [rf06_Begun.l0])
  | succ k1 =>
   have H := HA.out
   clear HA
   simp only [rf06_Begun.l0] at H
   by_cases c9 : x5_1 < (l0.length : Int)
   ·rw [if_pos c9] at H
    have c9b0 : decide (x5_1 < (l0.length : Int)) = true := decide_eq_true c9
    clear c9
    by_cases c10 : 0 ≤ x5_1
    ·rw [if_pos c10] at H
     have c10b0 : decide (0 ≤ x5_1) = true := decide_eq_true c10
     clear c10
     by_cases c11 : (rd l0 x5_1) < 1
     ·rw [if_pos c11] at H
      have c11b0 : decide ((rd l0 x5_1) < 1) = true := decide_eq_true c11
      clear c11
      simp only [Option.some.injEq, Prod.mk.injEq] at H
      obtain ⟨rfl, rfl, rfl, rfl⟩ := H
      have p191 : 0 ≤ (x5_1 : Int) := of_decide_eq_true (by first | (with_reducible assumption) | assumption)
      have q191 : x5_1 < (l0.length : Int) := of_decide_eq_true (by first | (with_reducible assumption) | assumption)
      obtain ⟨ad191, e191, hx191_0⟩ := Kd.at_int HR0.out x5_1 p191 q191
      cases e191
      replace hx191_0 := (HB.out.cell (World.block_lt_of_cell? w _ hx191_0)).trans hx191_0
      replace p191 := eq_true p191
      replace q191 := eq_true q191
      have hnb12 := NB190_186.out
      have hnc12 := NB186_190.out
      have hcz13_0 : wr.cell? ⟨gb190, 0, none⟩ = some (u191000) := (blk_cell BK190.out 0).trans rfl
      have hcz13_1 : wr.cell? ⟨gb190, 1, none⟩ = some (.slice Ao5 y187.length co5) := (blk_cell BK190.out 1).trans rfl
      have hcz13_2 : wr.cell? ⟨gb190, 2, none⟩ = some (.int .i64 4294967295) := (blk_cell BK190.out 2).trans rfl
      have hfz13_0 := blk_frozen BK190.out 0
      have hfz13_1 := blk_frozen BK190.out 1
      have hfz13_2 := blk_frozen BK190.out 2
      obtain ⟨Ao14, co14, eo14⟩ := Kd.S_slice HO_191000.out
      subst eo14
      have hcz15_0 : wr.cell? ⟨gb186, 0, none⟩ = some (.slice none 0 0) := (blk_cell BK186.out 0).trans rfl
      have hcz15_1 : wr.cell? ⟨gb186, 1, none⟩ = some (.slice none 0 0) := (blk_cell BK186.out 1).trans rfl
      have hcz15_2 : wr.cell? ⟨gb186, 2, none⟩ = some (.int .i64 x187002_1) := (blk_cell BK186.out 2).trans rfl
      have hfz15_0 := blk_frozen BK186.out 0
      have hfz15_1 := blk_frozen BK186.out 1
      have hfz15_2 := blk_frozen BK186.out 2
      go_wp2
      refine bodyPost_ret (results_ct rfl _ _ gb186 184 #[.slice Ao14 x191000_1.length co14, .slice Ao5 y187.length co5, .int .i64 4294967295] (0, 0) _ rfl (by (with_reducible repeat (first | refine blk_drewN ?_ _ | refine blk_drew ?_ | refine blk_alloc ?_ _)); refine blk_put (cs := #[.slice Ao14 x191000_1.length co14, .slice Ao5 y187.length co5, .int .i64 x187002_1]) ?_ 2 _ rfl; (with_reducible repeat (first | refine blk_drewN ?_ _ | refine blk_drew ?_ | refine blk_alloc ?_ _)); refine blk_put (cs := #[.slice Ao14 x191000_1.length co14, .slice none 0 0, .int .i64 x187002_1]) ?_ 1 _ rfl; (with_reducible repeat (first | refine blk_drewN ?_ _ | refine blk_drew ?_ | refine blk_alloc ?_ _)); refine blk_put (cs := #[.slice none 0 0, .slice none 0 0, .int .i64 x187002_1]) ?_ 0 _ rfl; (with_reducible repeat (first | refine blk_drewN ?_ _ | refine blk_drew ?_ | refine blk_alloc ?_ _)); exact BK186.out) Tryz.underlying184 rfl (by kernel_rfl)) rfl ?_
      exact ⟨_, _, by first | rfl | (simp [errW_none, errW_some] <;> rfl) | (simp [*, errW_none, errW_some] <;> rfl), by (with_reducible repeat (first | apply Kd.S_alloc | apply Kd.S_drewN | apply Kd.S_drew)); exact Kd.S_mono (Kd.S_far (p := ⟨gb186, 2, none⟩) (Kd.S_far (p := ⟨gb186, 1, none⟩) (Kd.S_far (p := ⟨gb186, 0, none⟩) (Kd.S_types HO_191000.out BK186.out (by decide)) (fun _ hk => hk.2) (.slice Ao14 x191000_1.length co14)) (fun _ hk => hk.2) (.slice Ao5 y187.length co5)) (fun _ hk => hk.2) (.int .i64 4294967295)) (fun _ hk => hk.1), by (with_reducible repeat (first | apply Kd.R_alloc | apply Kd.R_drewN | apply Kd.R_drew)); exact Kd.R_mono (Kd.R_far (p := ⟨gb186, 2, none⟩) (Kd.R_far (p := ⟨gb186, 1, none⟩) (Kd.R_far (p := ⟨gb186, 0, none⟩) (Kd.R_types HO_191001.out BK186.out (by decide)) (fun _ hk => hk.2) (.slice Ao14 x191000_1.length co14)) (fun _ hk => hk.2) (.slice Ao5 y187.length co5)) (fun _ hk => hk.2) (.int .i64 4294967295)) (fun _ hk => trivial), bH HB⟩
     ·rw [if_neg c11] at H
      have c11b0 : decide ((rd l0 x5_1) < 1) = false := decide_eq_false c11
      clear c11
      by_cases c16 : (rd l0 x5_1) > 256
      ·rw [if_pos c16] at H
       have c16b0 : decide (256 < (rd l0 x5_1)) = true := decide_eq_true c16
       clear c16
       simp only [Option.some.injEq, Prod.mk.injEq] at H
       obtain ⟨rfl, rfl, rfl, rfl⟩ := H
       have p191 : 0 ≤ (x5_1 : Int) := of_decide_eq_true (by first | (with_reducible assumption) | assumption)
       have q191 : x5_1 < (l0.length : Int) := of_decide_eq_true (by first | (with_reducible assumption) | assumption)
       obtain ⟨ad191, e191, hx191_0⟩ := Kd.at_int HR0.out x5_1 p191 q191
       cases e191
       replace hx191_0 := (HB.out.cell (World.block_lt_of_cell? w _ hx191_0)).trans hx191_0
       replace p191 := eq_true p191
       replace q191 := eq_true q191
       have p192 : 0 ≤ (x5_1 : Int) := of_decide_eq_true (by first | (with_reducible assumption) | assumption)
       have q192 : x5_1 < (l0.length : Int) := of_decide_eq_true (by first | (with_reducible assumption) | assumption)
       obtain ⟨ad192, e192, hx192_0⟩ := Kd.at_int HR0.out x5_1 p192 q192
       obtain rfl : ad191 = ad192 := (by injection e192)
       replace hx192_0 := (HB.out.cell (World.block_lt_of_cell? w _ hx192_0)).trans hx192_0
       replace p192 := eq_true p192
       replace q192 := eq_true q192
       have hnb17 := NB190_186.out
       have hnc17 := NB186_190.out
       have hcz18_0 : wr.cell? ⟨gb190, 0, none⟩ = some (u191000) := (blk_cell BK190.out 0).trans rfl
       have hcz18_1 : wr.cell? ⟨gb190, 1, none⟩ = some (.slice Ao5 y187.length co5) := (blk_cell BK190.out 1).trans rfl
       have hcz18_2 : wr.cell? ⟨gb190, 2, none⟩ = some (.int .i64 4294967295) := (blk_cell BK190.out 2).trans rfl
       have hfz18_0 := blk_frozen BK190.out 0
       have hfz18_1 := blk_frozen BK190.out 1
       have hfz18_2 := blk_frozen BK190.out 2
       obtain ⟨Ao19, co19, eo19⟩ := Kd.S_slice HO_191000.out
       subst eo19
       have hcz20_0 : wr.cell? ⟨gb186, 0, none⟩ = some (.slice none 0 0) := (blk_cell BK186.out 0).trans rfl
       have hcz20_1 : wr.cell? ⟨gb186, 1, none⟩ = some (.slice none 0 0) := (blk_cell BK186.out 1).trans rfl
       have hcz20_2 : wr.cell? ⟨gb186, 2, none⟩ = some (.int .i64 x187002_1) := (blk_cell BK186.out 2).trans rfl
       have hfz20_0 := blk_frozen BK186.out 0
       have hfz20_1 := blk_frozen BK186.out 1
       have hfz20_2 := blk_frozen BK186.out 2
       go_wp2
       refine bodyPost_ret (results_ct rfl _ _ gb186 184 #[.slice Ao19 x191000_1.length co19, .slice Ao5 y187.length co5, .int .i64 4294967295] (0, 0) _ rfl (by (with_reducible repeat (first | refine blk_drewN ?_ _ | refine blk_drew ?_ | refine blk_alloc ?_ _)); refine blk_put (cs := #[.slice Ao19 x191000_1.length co19, .slice Ao5 y187.length co5, .int .i64 x187002_1]) ?_ 2 _ rfl; (with_reducible repeat (first | refine blk_drewN ?_ _ | refine blk_drew ?_ | refine blk_alloc ?_ _)); refine blk_put (cs := #[.slice Ao19 x191000_1.length co19, .slice none 0 0, .int .i64 x187002_1]) ?_ 1 _ rfl; (with_reducible repeat (first | refine blk_drewN ?_ _ | refine blk_drew ?_ | refine blk_alloc ?_ _)); refine blk_put (cs := #[.slice none 0 0, .slice none 0 0, .int .i64 x187002_1]) ?_ 0 _ rfl; (with_reducible repeat (first | refine blk_drewN ?_ _ | refine blk_drew ?_ | refine blk_alloc ?_ _)); exact BK186.out) Tryz.underlying184 rfl (by kernel_rfl)) rfl ?_
       exact ⟨_, _, by first | rfl | (simp [errW_none, errW_some] <;> rfl) | (simp [*, errW_none, errW_some] <;> rfl), by (with_reducible repeat (first | apply Kd.S_alloc | apply Kd.S_drewN | apply Kd.S_drew)); exact Kd.S_mono (Kd.S_far (p := ⟨gb186, 2, none⟩) (Kd.S_far (p := ⟨gb186, 1, none⟩) (Kd.S_far (p := ⟨gb186, 0, none⟩) (Kd.S_types HO_191000.out BK186.out (by decide)) (fun _ hk => hk.2) (.slice Ao19 x191000_1.length co19)) (fun _ hk => hk.2) (.slice Ao5 y187.length co5)) (fun _ hk => hk.2) (.int .i64 4294967295)) (fun _ hk => hk.1), by (with_reducible repeat (first | apply Kd.R_alloc | apply Kd.R_drewN | apply Kd.R_drew)); exact Kd.R_mono (Kd.R_far (p := ⟨gb186, 2, none⟩) (Kd.R_far (p := ⟨gb186, 1, none⟩) (Kd.R_far (p := ⟨gb186, 0, none⟩) (Kd.R_types HO_191001.out BK186.out (by decide)) (fun _ hk => hk.2) (.slice Ao19 x191000_1.length co19)) (fun _ hk => hk.2) (.slice Ao5 y187.length co5)) (fun _ hk => hk.2) (.int .i64 4294967295)) (fun _ hk => trivial), bH HB⟩
      ·rw [if_neg c16] at H
       have c16b0 : decide (256 < (rd l0 x5_1)) = false := decide_eq_false c16
       clear c16
       replace H := Option.bind_eq_some_iff.mp H
       obtain ⟨t194, A210, H⟩ := H
       replace H : (if x191000_1.length < 5864062014805 then (rf06_Begun.l0 k1 l0 (wrap64 (x5_1 + 1)) (x191000_1 ++ [t194]) y187 4294967295) else (none)) = some (r1, r2, r3, r4) := H
       have A21 := Aside0.mk A210
       clear A210
       by_cases c22 : x191000_1.length < 5864062014805
       ·rw [if_pos c22] at H
        have LMc22 := Aside0.mk c22
        clear c22
        obtain ⟨y197, hy197⟩ : ∃ y_ : List (List Int), y_ = (x191000_1 ++ [t194]) := ⟨_, rfl⟩
        replace H : (rf06_Begun.l0 k1 l0 (wrap64 (x5_1 + 1)) y197 y187 4294967295) = some (r1, r2, r3, r4) := by first | (rw [hy197]; with_reducible exact H) | (have H2_ := (Option.bind_some _ _).symm.trans H; rw [hy197]; with_reducible exact H2_) | (have H2_ := (Option.bind_some _ _).symm.trans H; with_reducible exact H2_) | with_reducible exact H | (rw [hy197]; exact H) | exact H
        have Ny197 := Aside0.mk hy197
        clear hy197
        have H' := Aside0.mk H
        clear H
        have p191 : 0 ≤ (x5_1 : Int) := of_decide_eq_true (by first | (with_reducible assumption) | assumption)
        have q191 : x5_1 < (l0.length : Int) := of_decide_eq_true (by first | (with_reducible assumption) | assumption)
        obtain ⟨ad191, e191, hx191_0⟩ := Kd.at_int HR0.out x5_1 p191 q191
        cases e191
        replace hx191_0 := (HB.out.cell (World.block_lt_of_cell? w _ hx191_0)).trans hx191_0
        replace p191 := eq_true p191
        replace q191 := eq_true q191
        have p192 : 0 ≤ (x5_1 : Int) := of_decide_eq_true (by first | (with_reducible assumption) | assumption)
        have q192 : x5_1 < (l0.length : Int) := of_decide_eq_true (by first | (with_reducible assumption) | assumption)
        obtain ⟨ad192, e192, hx192_0⟩ := Kd.at_int HR0.out x5_1 p192 q192
        obtain rfl : ad191 = ad192 := (by injection e192)
        replace hx192_0 := (HB.out.cell (World.block_lt_of_cell? w _ hx192_0)).trans hx192_0
        replace p192 := eq_true p192
        replace q192 := eq_true q192
        try go_wp2
        have n0_ := Aside0.mk (Kd.S_drew HO_191000.out)
        have n1_ := Aside0.mk (Kd.R_drew HO_191001.out)
        have n2_ := Aside0.mk (blk_drew BK186.out)
        have n3_ := Aside0.mk (blk_drew BK190.out)
        have n4_ := Aside0.mk (below_drew1 HB.out)
        clear HO_191000
        clear HO_191001
        clear BK186
        clear BK190
        clear HB
        have HO_191000 := n0_
        have HO_191001 := n1_
        have BK186 := n2_
        have BK190 := n3_
        have HB := n4_
        clear n0_ n1_ n2_ n3_ n4_
        have p193 : 0 ≤ (x5_1 : Int) := of_decide_eq_true (by first | (with_reducible assumption) | assumption)
        have q193 : x5_1 < (l0.length : Int) := of_decide_eq_true (by first | (with_reducible assumption) | assumption)
        obtain ⟨ad193, e193, hx193_0⟩ := Kd.at_int HR0.out x5_1 p193 q193
        have hw193_0 := hx193_0
        obtain rfl : ad191 = ad193 := (by injection e193)
        replace hx193_0 := (HB.out.cell (World.block_lt_of_cell? w _ hx193_0)).trans hx193_0
        replace p193 := eq_true p193
        replace q193 := eq_true q193
        refine start_ (n := 11) (S := fun w' => w'.cell? ⟨gb190, 0, none⟩ = some (u191000) ∧ w'.cell? ⟨gb190, 1, none⟩ = some (.slice Ao5 y187.length co5) ∧ w'.cell? ⟨gb190, 2, none⟩ = some (.int .i64 4294967295) ∧ w'.cell? (ad191.add (x5_1).toNat) = some (.int .i64 (rd l0 x5_1))) (ds := [10]) #[false, false, false, false, false, false, false, false, false, false, false] (by kernel_rfl) rfl rfl ⟨(blk_cell BK190.out 0).trans rfl, (blk_cell BK190.out 1).trans rfl, (blk_cell BK190.out 2).trans rfl, ((HB.out.cell (World.block_lt_of_cell? w _ hw193_0)).trans hw193_0)⟩ (fun hHeld => ?_); refine with_tabW rf06_Begun.tab7 rf06_Begun.bits7 (fun HT_ HW_ => ?_)
        generalize wr.drew = w23 at HO_191000 HO_191001 BK186 BK190 HB hx193_0 hHeld ⊢
        refine pure_ (i := 0) (N := some 27) (v := ?_) (a' := ?_) #[true, false, false, false, false, false, false, false, false, false, false] rfl rfl (any_of HT_.out (by kernel_rfl)) (fun _ _ _ h => h) (Or.inl ⟨by rfl, ?_⟩) ?_ ?_
        rotate_left
        ·intro w'
         go_simp
         with_reducible rfl
        rotate_left
        ·simp only [Act.put, List.setIfInBounds_toArray, List.set_cons_zero, List.set_cons_succ, i64_w, i32_w]
         rfl
        refine pure_ (i := 2) (N := some 29) (v := ?_) (a' := ?_) #[true, false, true, false, false, false, false, false, false, false, false] rfl rfl (any_of HT_.out (by kernel_rfl)) (fun _ _ _ h => h) (Or.inl ⟨by rfl, ?_⟩) ?_ ?_
        rotate_left
        ·intro w'
         go_simp
         with_reducible rfl
        rotate_left
        ·simp only [Act.put, List.setIfInBounds_toArray, List.set_cons_zero, List.set_cons_succ, i64_w, i32_w]
         rfl
        refine pure_ (i := 3) (N := some 30) (v := ?_) (a' := ?_) #[true, false, true, true, false, false, false, false, false, false, false] rfl rfl (any_of HT_.out (by kernel_rfl)) (fun _ _ _ h => h) (Or.inl ⟨by rfl, ?_⟩) ?_ ?_
        rotate_left
        ·intro w'
         go_simp
         with_reducible rfl
        rotate_left
        ·simp only [Act.put, List.setIfInBounds_toArray, List.set_cons_zero, List.set_cons_succ, i64_w, i32_w]
         rfl
        refine pure_ (i := 4) (N := some 31) (v := ?_) (a' := ?_) #[true, false, true, true, true, false, false, false, false, false, false] rfl rfl (any_of HT_.out (by kernel_rfl)) (fun _ _ _ h => h) (Or.inl ⟨by rfl, ?_⟩) ?_ ?_
        rotate_left
        ·intro w'
         go_simp
         with_reducible rfl
        rotate_left
        ·simp only [Act.put, List.setIfInBounds_toArray, List.set_cons_zero, List.set_cons_succ, i64_w, i32_w]
         rfl
        refine take_ (i := 1) (N := some 28) (v := ?_) (a' := ?_) #[true, true, true, true, true, false, false, false, false, false, false] rfl rfl (take_ofW HT_.out HW_.out (by kernel_rfl)) (fun _ _ _ h => h) (Or.inl ⟨by rfl, ?_⟩) hHeld ?_ ?_
        rotate_left
        ·rintro w' ⟨s0, s1, s2, s3⟩
         go_simp
         with_reducible rfl
        rotate_left
        ·simp only [Act.put, List.setIfInBounds_toArray, List.set_cons_zero, List.set_cons_succ, i64_w, i32_w]
         rfl
        refine take_ (i := 5) (N := some 32) (v := ?_) (a' := ?_) #[true, true, true, true, true, true, false, false, false, false, false] rfl rfl (take_ofW HT_.out HW_.out (by kernel_rfl)) (fun _ _ _ h => h) (Or.inl ⟨by rfl, ?_⟩) hHeld ?_ ?_
        rotate_left
        ·rintro w' ⟨s0, s1, s2, s3⟩
         go_simp
         with_reducible rfl
        rotate_left
        ·simp only [Act.put, List.setIfInBounds_toArray, List.set_cons_zero, List.set_cons_succ, i64_w, i32_w]
         rfl
        refine one_ (i := 6) (N := some 33) #[true, true, true, true, true, true, true, false, false, false, false] rfl rfl (one_of HT_.out (by kernel_rfl)) (by decide) (fun K hK => ?_)
        refine goes_ Tryz.func159 (by kernel_rfl) rfl #[.int .i64 (rd l0 x5_1)] (by rfl) rfl rfl (by (try simp only [List.map_toArray, List.map_cons, List.map_nil]); first | done | rfl | (simp only [List.length_drop, List.length_take]; rfl)) ?_
        with_reducible refine (rf05_New.calls k1 (rd l0 x5_1) t194 _ A21.out).mono ?_
        rintro e w24 ⟨v195, rfl, ho0, hb⟩
        refine ⟨_, rfl, ?_⟩
        have n0_ := Aside0.mk (Kd.S_elder' (by (with_reducible repeat (first | apply Kd.S_alloc | apply Kd.S_drewN | apply Kd.S_drew)); exact HO_191000.out) (Kd.R_base ho0) hb)
        have n1_ := Aside0.mk (Kd.R_elder' (rK HO_191001) (Kd.R_base ho0) hb)
        have n2_ := Aside0.mk (Kd.R_lower (Kd.R_new' ho0 (Kd.R_lt (rK HO_191001))) (below_size (bH HB)))
        have n3_ := Aside0.mk (blk_below (g := gb186) (o := .cells #[.slice none 0 0, .slice none 0 0, .int .i64 x187002_1] 184 (0, 0)) (bK BK186) hb)
        have n4_ := Aside0.mk (blk_below (g := gb190) (o := .cells #[u191000, .slice Ao5 y187.length co5, .int .i64 4294967295] 184 (0, 0)) (bK BK190) hb)
        have n5_ := Aside0.mk (below_step (bH HB) hb)
        clear HO_191000
        clear HO_191001
        clear BK186
        clear BK190
        clear HB
        have HO_191000 := n0_
        have HO_191001 := n1_
        have HO196 := n2_
        have BK186 := n3_
        have BK190 := n4_
        have HB := n5_
        clear n0_ n1_ n2_ n3_ n4_ n5_
        (try clear hb)
        (try clear hb2)
        (try clear hk)
        (try clear hi)
        (try clear ho0)
        obtain ⟨Ao26, co26, eo26⟩ := Kd.R_slice HO196.out
        (first | subst eo26 | (injection eo26 with f1_ f2_ f3_; have f4_ := f1_.symm; have f5_ := f3_.symm; clear f1_ f2_ f3_; subst f4_; subst f5_))
        refine hK.out _ _ ⟨(blk_cell BK190.out 0).trans rfl, (blk_cell BK190.out 1).trans rfl, (blk_cell BK190.out 2).trans rfl, ((HB.out.cell (World.block_lt_of_cell? w _ hw193_0)).trans hw193_0)⟩ (fun hHeld => ?_)
        clear hK K
        refine norm_ (a' := ?_) ?_ ?_
        rotate_left
        ·show Act.put _ (some 33) _ = _
         simp only [Act.put, List.setIfInBounds_toArray, List.set_cons_zero, List.set_cons_succ, i64_w, i32_w]
         rfl
        refine one_ (i := 7) (N := some 34) #[true, true, true, true, true, true, true, true, false, false, false] rfl rfl (one_of HT_.out (by kernel_rfl)) (by decide) (fun K hK => ?_)
        refine value_ (w1 := ?_) (v := ?_) (by rfl) rfl ?_ ?_
        rotate_left 2
        ·go_simp
         constructor
         ·rfl
         ·rfl
        refine hK.out _ _ ⟨(blk_cell (blk_alloc BK190.out _) 0).trans rfl, (blk_cell (blk_alloc BK190.out _) 1).trans rfl, (blk_cell (blk_alloc BK190.out _) 2).trans rfl, (World.cell?_alloc_lt _ _ _ (World.block_lt_of_cell? _ _ (((HB.out.cell (World.block_lt_of_cell? w _ hw193_0)).trans hw193_0)))).trans (((HB.out.cell (World.block_lt_of_cell? w _ hw193_0)).trans hw193_0))⟩ (fun hHeld => ?_)
        clear hK K
        refine norm_ (a' := ?_) ?_ ?_
        rotate_left
        ·show Act.put _ (some 34) _ = _
         simp only [Act.put, List.setIfInBounds_toArray, List.set_cons_zero, List.set_cons_succ, i64_w, i32_w]
         rfl
        refine one_ (i := 8) (N := some 35) #[true, true, true, true, true, true, true, true, true, false, false] rfl rfl (one_of HT_.out (by kernel_rfl)) (by decide) (fun K hK => ?_)
        refine Kd.S_append_step (Kd.slice 3 (Kd.int .i64)) (w0 := w) w.heap.size (by rfl) (.tmp 28) (.tmp 34) 58 83 (.slice none 0 0) 24 rfl Tryz.underlying58 info83 rfl (by decide) (by omega) u191000 x191000_1 t194 [.slice Ao26 t194.length co26] (fun k_ => some k_ ≠ (.slice Ao5 y187.length co5 : Value).ownBlock) (fun k_ => some k_ = (.slice Ao26 t194.length co26 : Value).ownBlock) rfl rfl ?aP (fun k_ hk_ => ((Kd.R_mono (ok' := fun k_ => ((fun k_ => some k_ ≠ (.slice Ao5 y187.length co5 : Value).ownBlock)) k_ ∧ some k_ ≠ (u191000 : Value).ownBlock) (Kd.R_apart' (HO196.out) (Kd.S_typed HO_191000.out) (by decide)) (fun k_ hk => ⟨hk.1.2, hk.2⟩))).1 k_ hk_.symm) ?aF ?aO ?aB ?aS ?aL ?_
        (case aP => exact Kd.M_row (Kd.R_mono (Kd.R_tight rfl (Kd.R_mono (ok' := fun k_ => ((fun k_ => some k_ ≠ (.slice Ao5 y187.length co5 : Value).ownBlock)) k_ ∧ some k_ ≠ (u191000 : Value).ownBlock) (Kd.R_apart' (HO196.out) (Kd.S_typed HO_191000.out) (by decide)) (fun k_ hk => ⟨hk.1.2, hk.2⟩))) (fun _ h_ => h_)))
        (case aB => exact (bH HB))
        (case aF => exact (fun k_ hk => Kd.fresh' (Kd.R_lt (rK HO_191001)) k_ hk))
        (case aO => exact (by (with_reducible repeat (first | apply Kd.S_alloc | apply Kd.S_drewN | apply Kd.S_drew)); exact Kd.S_mono HO_191000.out (fun k_ hk => ⟨hk.1, fun e_ => hk.2 e_⟩)))
        (case aS => exact (below_size (bH HB)))
        (case aL => have := LMc22.out; omega)
        intro v198 w25 ho hb hg hat
        rw [← Ny197.out] at ho
        have n0_ := Aside0.mk (Kd.R_over' (rK HO_191001) (Kd.S_typed (by (with_reducible repeat (first | apply Kd.S_alloc | apply Kd.S_drewN | apply Kd.S_drew)); exact HO_191000.out)) (by decide) hg)
        have n1_ := Aside0.mk (blk_grown (g := gb186) (o := .cells #[.slice none 0 0, .slice none 0 0, .int .i64 x187002_1] 184 (0, 0)) (bK BK186) hg (Kd.S_ne HO_191000.out BK186.out (by decide)))
        have n2_ := Aside0.mk (blk_grown (g := gb190) (o := .cells #[u191000, .slice Ao5 y187.length co5, .int .i64 4294967295] 184 (0, 0)) (bK BK190) hg (Kd.S_ne HO_191000.out BK190.out (by decide)))
        have n3_ := Aside0.mk (hb)
        have n4_ := Aside0.mk (ho)
        clear HO_191001
        clear BK186
        clear BK190
        clear HB
        clear HO_191000
        clear HO196
        have HO_191001 := n0_
        have BK186 := n1_
        have BK190 := n2_
        have HB := n3_
        have HO199 := n4_
        clear n0_ n1_ n2_ n3_ n4_
        clear ho hb hg hat
        obtain ⟨Ao27, co27, eo27⟩ := Kd.S_slice HO199.out
        (first | subst eo27 | (injection eo27 with f1_ f2_ f3_; have f4_ := f1_.symm; have f5_ := f3_.symm; clear f1_ f2_ f3_; subst f4_; subst f5_))
        refine hK.out _ _ ⟨(blk_cell BK190.out 0).trans rfl, (blk_cell BK190.out 1).trans rfl, (blk_cell BK190.out 2).trans rfl, ((HB.out.cell (World.block_lt_of_cell? w _ hw193_0)).trans hw193_0)⟩ (fun hHeld => ?_)
        clear hK K
        refine norm_ (a' := ?_) ?_ ?_
        rotate_left
        ·show Act.put _ (some 35) _ = _
         simp only [Act.put, List.setIfInBounds_toArray, List.set_cons_zero, List.set_cons_succ, i64_w, i32_w]
         rfl
        refine pure_ (i := 9) (N := some 36) (v := ?_) (a' := ?_) #[true, true, true, true, true, true, true, true, true, true, false] rfl rfl (any_of HT_.out (by kernel_rfl)) (fun _ _ _ h => h) (Or.inl ⟨by rfl, ?_⟩) ?_ ?_
        rotate_left
        ·intro w'
         go_simp
         with_reducible rfl
        rotate_left
        ·simp only [Act.put, List.setIfInBounds_toArray, List.set_cons_zero, List.set_cons_succ, i64_w, i32_w]
         rfl
        refine last_ (i := 10) (N := none) #[true, true, true, true, true, true, true, true, true, true, true] rfl rfl (one_of HT_.out (by kernel_rfl)) (by decide) (fun K hK => ?_)
        have hs28 : w25.cell? ⟨gb190, 0, none⟩ = some (u191000) := (blk_cell BK190.out 0).trans rfl
        have hfs28 := blk_frozen BK190.out 0
        have hns28_0 := NB186_190.out
        have hms28_0 := NB190_186.out
        refine skip_ (w1 := ?_) (by rfl) rfl ?_ ?_
        rotate_left
        ·go_simp
         rfl
        refine hK.out _ _ ?_
        clear hK K
        refine done_ (done_of HT_.out (by kernel_rfl)) ?_
        try go_wp2
        go_roundg k1
        case measure => have := HK1.out; omega
        case rel => exact ⟨(wrap64 (x5_1 + 1)), (x187002_1), (y197), (.slice Ao27 y197.length co27), (by first | rfl | (simp; done) | (simp [*]; done)), H', ⟨by have := HK1.out; omega⟩, ⟨by (with_reducible repeat (first | apply Kd.S_alloc | apply Kd.S_drewN | apply Kd.S_drew)); exact Kd.S_mono (Kd.S_far (p := ⟨gb190, 0, none⟩) (Kd.S_types HO199.out BK190.out (by decide)) (fun _ hk => hk.2) (.slice Ao27 y197.length co27)) (fun _ hk => hk.1)⟩, ⟨by (with_reducible repeat (first | apply Kd.R_alloc | apply Kd.R_drewN | apply Kd.R_drew)); exact Kd.R_mono (Kd.R_far (p := ⟨gb190, 0, none⟩) (Kd.R_types HO_191001.out BK190.out (by decide)) (fun _ hk => hk.2) (.slice Ao27 y197.length co27)) (fun _ hk => trivial)⟩, ⟨bK BK186⟩, ⟨by (with_reducible repeat (first | refine blk_drewN ?_ _ | refine blk_drew ?_ | refine blk_alloc ?_ _)); refine blk_put (cs := #[u191000, .slice Ao5 y187.length co5, .int .i64 4294967295]) ?_ 0 _ rfl; (with_reducible repeat (first | refine blk_drewN ?_ _ | refine blk_drew ?_ | refine blk_alloc ?_ _)); exact BK190.out⟩, ⟨ bH HB⟩⟩
       ·rw [if_neg c22] at H
        exact absurd H (by simp)
    ·rw [if_neg c10] at H
     exact absurd H (by simp)
   ·rw [if_neg c9] at H
    have c9b0 : decide (x5_1 < (l0.length : Int)) = false := decide_eq_false c9
    clear c9
    simp only [Option.some.injEq, Prod.mk.injEq] at H
    obtain ⟨rfl, rfl, rfl, rfl⟩ := H
    have hnb29 := NB190_186.out
    have hnc29 := NB186_190.out
    have hcz30_0 : wr.cell? ⟨gb190, 0, none⟩ = some (u191000) := (blk_cell BK190.out 0).trans rfl
    have hcz30_1 : wr.cell? ⟨gb190, 1, none⟩ = some (.slice Ao5 y187.length co5) := (blk_cell BK190.out 1).trans rfl
    have hcz30_2 : wr.cell? ⟨gb190, 2, none⟩ = some (.int .i64 4294967295) := (blk_cell BK190.out 2).trans rfl
    have hfz30_0 := blk_frozen BK190.out 0
    have hfz30_1 := blk_frozen BK190.out 1
    have hfz30_2 := blk_frozen BK190.out 2
    obtain ⟨Ao31, co31, eo31⟩ := Kd.S_slice HO_191000.out
    subst eo31
    have hcz32_0 : wr.cell? ⟨gb186, 0, none⟩ = some (.slice none 0 0) := (blk_cell BK186.out 0).trans rfl
    have hcz32_1 : wr.cell? ⟨gb186, 1, none⟩ = some (.slice none 0 0) := (blk_cell BK186.out 1).trans rfl
    have hcz32_2 : wr.cell? ⟨gb186, 2, none⟩ = some (.int .i64 x187002_1) := (blk_cell BK186.out 2).trans rfl
    have hfz32_0 := blk_frozen BK186.out 0
    have hfz32_1 := blk_frozen BK186.out 1
    have hfz32_2 := blk_frozen BK186.out 2
    go_wp2
    refine bodyPost_ret (results_ct rfl _ _ gb186 184 #[.slice Ao31 x191000_1.length co31, .slice Ao5 y187.length co5, .int .i64 4294967295] (0, 0) _ rfl (by (with_reducible repeat (first | refine blk_drewN ?_ _ | refine blk_drew ?_ | refine blk_alloc ?_ _)); refine blk_put (cs := #[.slice Ao31 x191000_1.length co31, .slice Ao5 y187.length co5, .int .i64 x187002_1]) ?_ 2 _ rfl; (with_reducible repeat (first | refine blk_drewN ?_ _ | refine blk_drew ?_ | refine blk_alloc ?_ _)); refine blk_put (cs := #[.slice Ao31 x191000_1.length co31, .slice none 0 0, .int .i64 x187002_1]) ?_ 1 _ rfl; (with_reducible repeat (first | refine blk_drewN ?_ _ | refine blk_drew ?_ | refine blk_alloc ?_ _)); refine blk_put (cs := #[.slice none 0 0, .slice none 0 0, .int .i64 x187002_1]) ?_ 0 _ rfl; (with_reducible repeat (first | refine blk_drewN ?_ _ | refine blk_drew ?_ | refine blk_alloc ?_ _)); exact BK186.out) Tryz.underlying184 rfl (by kernel_rfl)) rfl ?_
    exact ⟨_, _, by first | rfl | (simp [errW_none, errW_some] <;> rfl) | (simp [*, errW_none, errW_some] <;> rfl), by (with_reducible repeat (first | apply Kd.S_alloc | apply Kd.S_drewN | apply Kd.S_drew)); exact Kd.S_mono (Kd.S_far (p := ⟨gb186, 2, none⟩) (Kd.S_far (p := ⟨gb186, 1, none⟩) (Kd.S_far (p := ⟨gb186, 0, none⟩) (Kd.S_types HO_191000.out BK186.out (by decide)) (fun _ hk => hk.2) (.slice Ao31 x191000_1.length co31)) (fun _ hk => hk.2) (.slice Ao5 y187.length co5)) (fun _ hk => hk.2) (.int .i64 4294967295)) (fun _ hk => hk.1), by (with_reducible repeat (first | apply Kd.R_alloc | apply Kd.R_drewN | apply Kd.R_drew)); exact Kd.R_mono (Kd.R_far (p := ⟨gb186, 2, none⟩) (Kd.R_far (p := ⟨gb186, 1, none⟩) (Kd.R_far (p := ⟨gb186, 0, none⟩) (Kd.R_types HO_191001.out BK186.out (by decide)) (fun _ hk => hk.2) (.slice Ao31 x191000_1.length co31)) (fun _ hk => hk.2) (.slice Ao5 y187.length co5)) (fun _ hk => hk.2) (.int .i64 4294967295)) (fun _ hk => trivial), bH HB⟩
end Go.Proofs.YtbdbobjdlomjnaaGreatDoor.P
