/- Bytes unpacked: Unpack. No condition. Written for this claim by a program of this session (a turned copy of the print): Go functions as Lean functions, and that the Go code comes to just these answers; or a statement proved out of them. No condition. -/
import Derived.Test.YtbdbobjdlomjnaaGreatDoorZ6
import Derived.Test.YtbdbobjdlomjnaaGreatDoorZ2

namespace Go.Proofs.YtbdbobjdlomjnaaGreatDoor.Ec
set_option linter.unusedVariables false
set_option linter.unusedSimpArgs false
open Go Go.RowKit Go.Proofs.YtbdbobjdlomjnaaGreatDoor.P Go.Proofs.YtbdbobjdlomjnaaGreatDoor.X Go.Proofs.YtbdbobjdlomjnaaGreatDoorW.PrintWords Go.Proofs.YtbdbobjdlomjnaaGreatDoorW.PrintLast Go.Proofs.YtbdbobjdlomjnaaGreatDoorW.PrintMore
set_option maxHeartbeats 8000000
set_option maxRecDepth 100000
theorem C_ci (w : World) (g : Nat) (xs : List Int) (t : TypeId) (fr : Nat × Nat) (hg : w.heap[g]? = some (.cells (ci xs) t fr)) (hl : xs.length ≤ 9223372036854775807) : Kd.C (Kd.int .i64) w (some ⟨g, 0, none⟩) xs.length xs := by
 refine ⟨rfl, hl, fun _ => ⟨⟨g, 0, none⟩, rfl, fun j p hp => ⟨[.int .i64 p], rfl, rfl, fun i u hu => ?_⟩⟩⟩
 have hi : i = 0 := by
  cases i with
  | zero => rfl
  | succ i => simp at hu
 subst hi
 have hu' : Value.int .i64 p = u := by simpa using hu
 subst hu'
 have e : (Addr.add ⟨g, 0, none⟩ (j * (Kd.int IntKind.i64).sz + 0)) = ⟨g, j, none⟩ := by
  have : (Kd.int IntKind.i64).sz = 1 := rfl
  rw [this, Addr.add_mid]; simp
 rw [e, cell_of_row w g j _ t fr hg]
 simp [ci, hp]
def unpE (o : Option (List Int)) (base : Nat) (e : Ending) (w' : World) : Prop := match o with
 | some l => ∃ vo, e = .returned (.tuple #[vo, .int .i64 0]) ∧ Kd.R (Kd.int .u8) 5 w' base (fun _ => True) vo l
 | none => ∃ c, e = .returned (.tuple #[.slice none 0 0, .int .i64 c]) ∧ c ≠ 0
theorem unpack_calls (w : World) (n : Nat) (B : Option Addr) (bc : Nat) (bs : List Int) (hn : n ≤ 1048576) (hd : Dg bs) (hbl : bs.length ≤ 1073741824) (hB : Kd.C (Kd.int .u8) w B bs.length bs) :
  Calls Tryz.prog 52 #[.int .i64 (n : Int), .slice B bs.length bc] w fun e w' => unpE (if 65536 < n then none else unpackV n bs) w.heap.size e w' ∧ Below w.heap.size w w' := by
 have hu2 := Tryz.underlying122
 by_cases hbig : 65536 < n
 ·have hbb : decide (65536 < (n : Int)) = true := decide_eq_true (by omega)
  go_enter Tryz.func52, Tryz.ntmps52
  go_wp2
  go_ret2
  first | rw [if_pos hbig] | skip
  exact ⟨⟨3, rfl, by decide⟩, Below.refl _ w⟩
 ·have hbb : decide (65536 < (n : Int)) = false := decide_eq_false (by omega)
  rw [if_neg hbig]
  have hmk := print_make (P := Tryz.prog) 83 3 .i64 8 Tryz.underlying83 (by kernel_rfl) (by decide) n (by omega)
  have hb7 : Below w.heap.size w (w.alloc (.cells #[.int .i64 256] 3)) := below_alloc (Below.refl _ w) _
  have hg7 := heap_alloc_new w (.cells #[.int .i64 256] 3)
  have hb8 : Below w.heap.size w ((w.alloc (.cells #[.int .i64 256] 3)).alloc (.cells (madeCells #[.int .i64 0] n) 3)) := below_alloc hb7 _
  have hg8 := heap_alloc_new (w.alloc (.cells #[.int .i64 256] 3)) (.cells (madeCells #[.int .i64 0] n) 3)
  have hg7' := blk_alloc hg7 (.cells (madeCells #[.int .i64 0] n) 3)
  rw [show (w.alloc (.cells #[.int .i64 256] 3)).heap.size = w.heap.size + 1 by simp] at hg8
  have hC8 : Kd.C (Kd.int .i64) ((w.alloc (.cells #[.int .i64 256] 3)).alloc (.cells (madeCells #[.int .i64 0] n) 3)) (some ⟨w.heap.size + 1, 0, none⟩) n (List.replicate n 0) := by
   have := C_ci _ (w.heap.size + 1) (List.replicate n 0) _ _ (by rw [← made_ci]; exact hg8) (by simp; omega)
   rwa [List.length_replicate] at this
  have hdec := decode_calls _ w.heap.size (some ⟨w.heap.size + 1, 0, none⟩) n n B bc bs (by omega) hd hbl ((blk_cell hg7' 0).trans rfl) hC8 (Kd.C_below hB hb8)
  clear hg7 hg8 hg7' hC8 hb7
  cases hu : unpackV n bs with
  | none =>
   rw [hu] at hdec
   go_enter Tryz.func52, Tryz.ntmps52
   go_wp2_with (go_at_call 102; refine hdec.mono ?_; rintro e w9 ⟨rfl, hb9⟩)
   go_ret2
   exact ⟨⟨11, rfl, by decide⟩, below_step hb8 hb9⟩
  | some l =>
   rw [hu] at hdec
   obtain ⟨hll, hli, _⟩ := (unpackV_iff hd).1 hu
   have hlb : l.length ≤ 65536 := by omega
   clear hu hll
   go_enter Tryz.func52, Tryz.ntmps52
   go_upto_region 9 with (go_at_call 102; refine hdec.mono ?_; rintro e w9 ⟨⟨vo, rfl, hR9⟩, hb9⟩)
   obtain ⟨A9, c9, rfl⟩ := Kd.R_slice hR9
   have hB9 := below_step hb8 hb9
   have hC9 := (Kd.R_reads' hR9).2.2
   rw [codesOf_len] at hC9 ⊢
   clear hdec hR9 hb9 hb8 hmk
   go_wp2
   go_loopw [8, 30] (fun v8 v wr => ∃ i : Nat, i ≤ l.length ∧ v = .int .i64 i ∧ Kd.R (Kd.int .u8) 5 wr w9.heap.size (fun _ => True) v8 (l.take i) ∧ Below w9.heap.size w9 wr) (fun _ v _ => l.length - (intV v).toNat)
   case atStart => exact ⟨0, by omega, rfl, Kd.R_nil _ _ _ _ _, Below.refl _ _⟩
   case round =>
    obtain ⟨i, hi, rfl, hR, hbr⟩ := hrel
    rcases Nat.lt_or_ge i l.length with hlt | hge
    ·have hii : (i : Int) < (l.length : Int) := by omega
     have hin : In l[i] := hli _ (List.getElem_mem hlt)
     obtain ⟨ad, eA, y0, y1⟩ := at_T122 (Kd.C_below hC9 hbr) (i : Int) (by omega) hii
     subst eA
     rw [codesOf_rd l i hlt, Int.toNat_natCast] at y0 y1
     have hsn : l.take (i + 1) = l.take i ++ [l[i]] := by rw [List.take_add_one, List.getElem?_eq_getElem hlt]; rfl
     have HSN := Aside0.mk hsn
     have hlk : ((l.take i).length + 1) * 1 ≤ 140737488355328 := by rw [List.length_take]; omega
     clear hsn
     generalize l[i] = x at *
     obtain ⟨hx0, hx1⟩ := hin
     go_upto_region 12 with (fail)
     have hb7 : Below wr.heap.size wr (wr.alloc (.cells #[.int .i64 0, .int .i64 x] 122)) := below_alloc (Below.refl _ wr) _
     have hg7 := heap_alloc_new wr (.cells #[.int .i64 0, .int .i64 x] 122)
     generalize wr.alloc (.cells #[.int .i64 0, .int .i64 x] 122) = w7 at hb7 hg7 ⊢
     have z1 : w7.cell? ⟨wr.heap.size, 1, none⟩ = some (.int .i64 x) := (blk_cell hg7 1).trans rfl
     have hR7 := Kd.R_below hR hb7
     have hB7 := below_step hbr hb7
     clear y0 y1
     go_wp2_with (first | ((with_reducible refine gate_builtin (b := .append) (xs := #[.tmp 34, .tmp 38]) rfl ?_); at_builtin; refine Kd.R_append (Kd.int .u8) (w0 := w9) w9.heap.size rfl (.tmp 34) (.tmp 38) 26 5 (.int .u8 0) 1 rfl Tryz.underlying26 infoU rfl (by decide) (by omega) _ (l.take i) x [.int .u8 x] (fun _ => True) (fun _ => False) rfl rfl ?aP (fun _ hk => hk.elim) ?aF ?aO ?aB ?aS ?aL ?_; (case aP => exact rfl); (case aF => exact fun _ _ => trivial); (case aO => exact hR7); (case aB => exact hB7); (case aS => exact hB7.size); (case aL => exact hlk); intro v3 w3 hR3 hb3 hg3 hat3; rw [← HSN.out] at hR3))
     go_roundw
     case rel => exact ⟨i + 1, by omega, rfl, hR3, hb3⟩
     case measure => simp [intV]; omega
    ·obtain rfl : i = l.length := by omega
     rw [List.take_length] at hR
     go_wp2
     go_ret2
     exact ⟨⟨_, rfl, Kd.R_lower hR hB9.size⟩, below_step hB9 hbr⟩
end Go.Proofs.YtbdbobjdlomjnaaGreatDoor.Ec

namespace Go.Proofs.YtbdbobjdlomjnaaGreatDoor.P
open Go.RowKit Go.Proofs.YtbdbobjdlomjnaaGreatDoorW.PrintWords Go.Proofs.YtbdbobjdlomjnaaGreatDoorW.PrintLast Go.Proofs.YtbdbobjdlomjnaaGreatDoorW.PrintMore Go.Proofs.YtbdbobjdlomjnaaGreatDoor.X
attribute [local go_sem] max2_int min2_int max_two min_two max_three min_three max_four min_four add64_0 add64_1 add64
set_option linter.unusedVariables false
set_option linter.unusedSimpArgs false
mutual
def vint_Put.l0 : Nat → List Int → List Int → Int → Int → Option (List Int)
 | 0, _, _, _, _ => none
 | k + 1, x3, x6, x7, x8 => if x8 < x7 then (if 0 ≤ x8 then (if x8 < (x6.length : Int) then (vint_Put.l1 k x3 (rd x6 x8) x6 x7 x8) else (none)) else (none)) else (some x3)
def vint_Put.l1 : Nat → List Int → Int → List Int → Int → Int → Option (List Int)
 | 0, _, _, _, _, _ => none
 | k + 1, x3, x5, x6, x7, x8 => if x5 ≥ 128 then (if x3.length < 140737488355328 then (vint_Put.l1 k (x3 ++ [Go.bits .or .u8 ((x5) % 256) 128]) (x5 / 128) x6 x7 x8) else (none)) else (if x3.length < 140737488355328 then (vint_Put.l0 k (x3 ++ [(x5) % 256]) x6 x7 (wrap64 (x8 + 1))) else (none))
end
def vint_Put.f (k : Nat) (l0 : List Int) : Option (List Int) := vint_Put.l0 k ([] : List Int) l0 (l0.length : Int) 0
theorem vint_Put.mono_l : ∀ k, (∀ y0 y1 y2 y3, LeO (vint_Put.l0 k y0 y1 y2 y3) (vint_Put.l0 (k + 1) y0 y1 y2 y3)) ∧ (∀ y0 y1 y2 y3 y4, LeO (vint_Put.l1 k y0 y1 y2 y3 y4) (vint_Put.l1 (k + 1) y0 y1 y2 y3 y4))
 | 0 => ⟨fun _ _ _ _ r h => by simp [vint_Put.l0] at h, fun _ _ _ _ _ r h => by simp [vint_Put.l1] at h⟩
 | k + 1 => by
  obtain ⟨ih0, ih1⟩ := vint_Put.mono_l k
  refine ⟨?_, ?_⟩
  ·intro y0 y1 y2 y3
   unfold vint_Put.l0
   repeat' first
   | (with_reducible exact ih0 _ _ _ _)
   | (with_reducible exact ih1 _ _ _ _ _)
   | (with_reducible exact LeO.refl _)
   | (with_reducible exact LeO.none _)
   | (with_reducible refine LeO.ite ?_ ?_)
   | (with_reducible refine LeO.bind ?_ (fun _ => ?_))
   | exact ih0 _ _ _ _
   | exact ih1 _ _ _ _ _
   | exact LeO.none _
   | refine LeO.ite ?_ ?_
   | refine LeO.bind ?_ (fun _ => ?_)
  ·intro y0 y1 y2 y3 y4
   unfold vint_Put.l1
   repeat' first
   | (with_reducible exact ih0 _ _ _ _)
   | (with_reducible exact ih1 _ _ _ _ _)
   | (with_reducible exact LeO.refl _)
   | (with_reducible exact LeO.none _)
   | (with_reducible refine LeO.ite ?_ ?_)
   | (with_reducible refine LeO.bind ?_ (fun _ => ?_))
   | exact ih0 _ _ _ _
   | exact ih1 _ _ _ _ _
   | exact LeO.none _
   | refine LeO.ite ?_ ?_
   | refine LeO.bind ?_ (fun _ => ?_)
theorem vint_Put.mono : ∀ a0 k, LeO (vint_Put.f k a0) (vint_Put.f (k + 1) a0) := by
 intro a0 k
 obtain ⟨ih0, ih1⟩ := vint_Put.mono_l k
 unfold vint_Put.f
 repeat' first
   | (with_reducible exact ih0 _ _ _ _)
   | (with_reducible exact ih1 _ _ _ _ _)
   | (with_reducible exact LeO.refl _)
   | (with_reducible exact LeO.none _)
   | (with_reducible refine LeO.ite ?_ ?_)
   | (with_reducible refine LeO.bind ?_ (fun _ => ?_))
   | exact ih0 _ _ _ _
   | exact ih1 _ _ _ _ _
   | exact LeO.none _
   | refine LeO.ite ?_ ?_
   | refine LeO.bind ?_ (fun _ => ?_)
set_option maxHeartbeats 8000000 in
set_option maxRecDepth 100000 in
theorem vint_Put.calls (k : Nat) (A0 : Option Addr) (c0 : Nat) (l0 : List Int) (r : List Int) (w : World) (hr0 : Kd.C (Kd.int .u64) w A0 l0.length l0) (hc0 : l0.length ≤ c0) (h : vint_Put.f k l0 = some r) :
  Calls Tryz.prog 36 #[.slice A0 l0.length c0] w fun e w' => ∃ v0_ : Value, e = .returned (v0_) ∧ Kd.R (Kd.int .u8) 5 w' w.heap.size (fun _ => True) v0_ r ∧ Below w.heap.size w w' := by
 have HR0 := Aside0.mk hr0
 have HC0 := Aside0.mk hc0
 clear hr0 hc0
 have HB := Aside0.mk (Below.refl w.heap.size w)
 have H : (vint_Put.l0 k ([] : List Int) l0 (l0.length : Int) 0) = some r := h
 clear h
 have H' := Aside0.mk H
 clear H
 go_enter Tryz.func36, Tryz.ntmps36
 go_wp2
 go_loopg [3, 8] k (fun kq v3 v8 w' => ∃ (x3_1 : List Int) (x8_1 : Int), v8 = .int .i64 x8_1 ∧ Aside0 (vint_Put.l0 kq x3_1 l0 (l0.length : Int) x8_1 = some r) ∧ Aside0 (kq ≤ k) ∧ Aside0 (Kd.R (Kd.int .u8) 5 w' w.heap.size (fun _ => True) v3 x3_1) ∧ Aside0 (Below w.heap.size w w'))
 case atStart => exact ⟨(([] : List Int)), (0), (by first | rfl | (simp; done) | (simp [*]; done)), H', ⟨Nat.le_refl _⟩, ⟨by first | exact Kd.R_nil _ _ _ _ _ | exact Kd.N_nil _ _ _ _ _ | exact Kd.V_nil _ _ _ _ _ | exact Kd.Q_nil _ _ _ _ _ | exact Kd.S_nil _ _ _ _ _⟩, ⟨ bH HB⟩⟩
 case round =>
  clear H'
  obtain ⟨x3_1, x8_1, rfl, HA, HK1, HO_3, HB⟩ := hrel
  cases gk with
  | zero => exact absurd HA.out (by simp [vint_Put.l0])
  | succ k1 =>
   have H := HA.out
   clear HA
   simp only [vint_Put.l0] at H
   by_cases c2 : x8_1 < (l0.length : Int)
   ·rw [if_pos c2] at H
    have c2b0 : decide (x8_1 < (l0.length : Int)) = true := decide_eq_true c2
    clear c2
    by_cases c3 : 0 ≤ x8_1
    ·rw [if_pos c3] at H
     have c3b0 : decide (0 ≤ x8_1) = true := decide_eq_true c3
     clear c3
     by_cases c4 : x8_1 < (l0.length : Int)
     ·rw [if_pos c4] at H
      have c4b0 : decide (x8_1 < (l0.length : Int)) = true := decide_eq_true c4
      clear c4
      have H' := Aside0.mk H
      clear H
      have p102 : 0 ≤ (x8_1 : Int) := of_decide_eq_true (by first | (with_reducible assumption) | assumption)
      have q102 : x8_1 < (l0.length : Int) := of_decide_eq_true (by first | (with_reducible assumption) | assumption)
      obtain ⟨ad102, e102, hx102_0⟩ := Kd.at_int HR0.out x8_1 p102 q102
      cases e102
      replace hx102_0 := (HB.out.cell (World.block_lt_of_cell? w _ hx102_0)).trans hx102_0
      replace p102 := eq_true p102
      replace q102 := eq_true q102
      go_wp2
      go_loopg [3, 5] k1 (fun kq v3 v5 w' => ∃ (x3_2 : List Int) (x5_2 : Int), v5 = .int .u64 x5_2 ∧ Aside0 (vint_Put.l1 kq x3_2 x5_2 l0 (l0.length : Int) x8_1 = some r) ∧ Aside0 (kq ≤ k1) ∧ Aside0 (Kd.R (Kd.int .u8) 5 w' w.heap.size (fun _ => True) v3 x3_2) ∧ Aside0 (Below w.heap.size w w'))
      case atStart => exact ⟨(x3_1), (rd l0 x8_1), (by first | rfl | (simp; done) | (simp [*]; done)), H', ⟨Nat.le_refl _⟩, ⟨by (with_reducible repeat (first | apply Kd.R_alloc | apply Kd.R_drewN | apply Kd.R_drew)); exact HO_3.out⟩, ⟨ bH HB⟩⟩
      case round =>
       clear H'
       try clear p1
       try clear q1
       try clear hx1
       try clear c2
       try clear c2b0
       try clear p2
       try clear c3
       try clear c3b0
       try clear c4
       try clear c4b0
       try clear hx102_0
       try clear p102
       try clear q102
       obtain ⟨x3_2, x5_2, rfl, HA, HK2, HO_3, HB⟩ := hrel
       cases gk with
       | zero => exact absurd HA.out (by simp [vint_Put.l1])
       | succ k2 =>
        have H := HA.out
        clear HA
        simp only [vint_Put.l1] at H
        by_cases c5 : x5_2 ≥ 128
        ·rw [if_pos c5] at H
         have c5b0 : decide (128 ≤ x5_2) = true := decide_eq_true c5
         clear c5
         by_cases c6 : x3_2.length < 140737488355328
         ·rw [if_pos c6] at H
          have LMc6 := Aside0.mk c6
          clear c6
          obtain ⟨y103, hy103⟩ : ∃ y_ : List Int, y_ = (x3_2 ++ [Go.bits .or .u8 ((x5_2) % 256) 128]) := ⟨_, rfl⟩
          replace H : (vint_Put.l1 k2 y103 (x5_2 / 128) l0 (l0.length : Int) x8_1) = some r := by first | (rw [hy103]; with_reducible exact H) | (have H2_ := (Option.bind_some _ _).symm.trans H; rw [hy103]; with_reducible exact H2_) | (have H2_ := (Option.bind_some _ _).symm.trans H; with_reducible exact H2_) | with_reducible exact H | (rw [hy103]; exact H) | exact H
          have Ny103 := Aside0.mk hy103
          clear hy103
          have H' := Aside0.mk H
          clear H
          go_wp2_with (first | ((with_reducible refine gate_builtin (b := .append) (xs := #[.tmp 14, .tmp 18]) rfl ?_); at_builtin; refine Kd.R_append (Kd.int .u8) (w0 := w) w.heap.size rfl (.tmp 14) (.tmp 18) 26 5 (.int .u8 0) 1 rfl Tryz.underlying26 info5 rfl (by decide) (by omega) u3 x3_2 (Go.bits .or .u8 ((x5_2) % 256) 128) [.int .u8 (Go.bits .or .u8 ((x5_2) % 256) 128)] (fun _ => True) (fun _ => False) rfl rfl ?aP (fun _ hk => hk.elim) ?aF ?aO ?aB ?aS ?aL ?_; (case aP => exact rfl); (case aB => exact (bH HB)); (case aF => exact (fun _ _ => trivial)); (case aO => exact (rK HO_3)); (case aS => exact (below_size (bH HB))); (case aL => have := LMc6.out; omega); intro v104 w7 ho hb hg hat; rw [← Ny103.out] at ho; have n0_ := Aside0.mk (hb); have n1_ := Aside0.mk (ho); clear HB; clear HO_3; have HB := n0_; have HO105 := n1_; clear n0_ n1_; clear ho hb hg hat))
          go_roundg k2
          case measure => have := HK1.out; have := HK2.out; omega
          case rel => exact ⟨(y103), (x5_2 / 128), (by first | rfl | (simp; done) | (simp [*]; done)), H', ⟨by have := HK1.out; have := HK2.out; omega⟩, ⟨by (with_reducible repeat (first | apply Kd.R_alloc | apply Kd.R_drewN | apply Kd.R_drew)); exact HO105.out⟩, ⟨ bH HB⟩⟩
         ·rw [if_neg c6] at H
          exact absurd H (by simp)
        ·rw [if_neg c5] at H
         have c5b0 : decide (128 ≤ x5_2) = false := decide_eq_false c5
         clear c5
         by_cases c8 : x3_2.length < 140737488355328
         ·rw [if_pos c8] at H
          have LMc8 := Aside0.mk c8
          clear c8
          obtain ⟨y106, hy106⟩ : ∃ y_ : List Int, y_ = (x3_2 ++ [(x5_2) % 256]) := ⟨_, rfl⟩
          replace H : (vint_Put.l0 k2 y106 l0 (l0.length : Int) (wrap64 (x8_1 + 1))) = some r := by first | (rw [hy106]; with_reducible exact H) | (have H2_ := (Option.bind_some _ _).symm.trans H; rw [hy106]; with_reducible exact H2_) | (have H2_ := (Option.bind_some _ _).symm.trans H; with_reducible exact H2_) | with_reducible exact H | (rw [hy106]; exact H) | exact H
          have Ny106 := Aside0.mk hy106
          clear hy106
          have H' := Aside0.mk H
          clear H
          go_wp2_with (first | ((with_reducible refine gate_builtin (b := .append) (xs := #[.tmp 22, .tmp 25]) rfl ?_); at_builtin; refine Kd.R_append (Kd.int .u8) (w0 := w) w.heap.size rfl (.tmp 22) (.tmp 25) 26 5 (.int .u8 0) 1 rfl Tryz.underlying26 info5 rfl (by decide) (by omega) u3 x3_2 ((x5_2) % 256) [.int .u8 ((x5_2) % 256)] (fun _ => True) (fun _ => False) rfl rfl ?aP (fun _ hk => hk.elim) ?aF ?aO ?aB ?aS ?aL ?_; (case aP => exact rfl); (case aB => exact (bH HB)); (case aF => exact (fun _ _ => trivial)); (case aO => exact (rK HO_3)); (case aS => exact (below_size (bH HB))); (case aL => have := LMc8.out; omega); intro v107 w9 ho hb hg hat; rw [← Ny106.out] at ho; have n0_ := Aside0.mk (hb); have n1_ := Aside0.mk (ho); clear HB; clear HO_3; have HB := n0_; have HO108 := n1_; clear n0_ n1_; clear ho hb hg hat))
          go_roundg k2
          case measure => have := HK1.out; have := HK2.out; omega
          case rel => exact ⟨(y106), (wrap64 (x8_1 + 1)), (by first | rfl | (simp; done) | (simp [*]; done)), H', ⟨by have := HK1.out; have := HK2.out; omega⟩, ⟨by (with_reducible repeat (first | apply Kd.R_alloc | apply Kd.R_drewN | apply Kd.R_drew)); exact HO108.out⟩, ⟨ bH HB⟩⟩
         ·rw [if_neg c8] at H
          exact absurd H (by simp)
     ·rw [if_neg c4] at H
      exact absurd H (by simp)
    ·rw [if_neg c3] at H
     exact absurd H (by simp)
   ·rw [if_neg c2] at H
    have c2b0 : decide (x8_1 < (l0.length : Int)) = false := decide_eq_false c2
    clear c2
    obtain rfl := Option.some.inj H
    go_wp2
    go_ret
    exact ⟨_, by first | rfl | (simp [errW_none, errW_some] <;> rfl) | (simp [*, errW_none, errW_some] <;> rfl), by (with_reducible repeat (first | apply Kd.R_alloc | apply Kd.R_drewN | apply Kd.R_drew)); exact HO_3.out, bH HB⟩

mutual
def vint_Get.j0 : Nat → List Int → Int → Bool → Option (Int × Int × Int)
 | 0, _, _, _ => none
 | k + 1, x0, x1, x18 => if x18 = true then (some (0, 0, 2)) else (if 0 ≤ x1 then (if x1 ≤ (x0.length : Int) then (vint_Get.l0 k x1 0 (-1) (x0.drop (x1 : Int).toNat) ((x0.drop (x1 : Int).toNat).length : Int) 0) else (none)) else (none))
def vint_Get.l0 : Nat → Int → Int → Int → List Int → Int → Int → Option (Int × Int × Int)
 | 0, _, _, _, _, _, _ => none
 | k + 1, x1, x7, x8, x21, x22, x23 => if x23 < x22 then (if 0 ≤ x23 then (if x23 < (x21.length : Int) then (if x23 > 9 then (vint_Get.j2 k x1 x7 x8 x23 (rd x21 x23) x21 x22 x23 true) else (if x23 = 9 then (vint_Get.j2 k x1 x7 x8 x23 (rd x21 x23) x21 x22 x23 (decide ((rd x21 x23) > 1))) else (vint_Get.j2 k x1 x7 x8 x23 (rd x21 x23) x21 x22 x23 false))) else (none)) else (none)) else (if x8 < 0 then (some (0, 0, 10)) else (some (x7, x8, 0)))
def vint_Get.j2 : Nat → Int → Int → Int → Int → Int → List Int → Int → Int → Bool → Option (Int × Int × Int)
 | 0, _, _, _, _, _, _, _, _, _ => none
 | k + 1, x1, x7, x8, x9, x10, x21, x22, x23, x28 => if x28 = true then (some (0, 0, 11)) else (if x10 < 128 then (if 0 ≤ (wrap64 (7 * x9)) then (if x10 = 0 then (if x9 > 0 then (some (0, 0, 11)) else (if (wrap64 ((wrap64 (x1 + x9)) + 1)) < 0 then (some (0, 0, 10)) else (some (Go.bits .or .u64 x7 (shl .u64 (IntKind.u64.wrap (x10)) (wrap64 (7 * x9))), wrap64 ((wrap64 (x1 + x9)) + 1), 0)))) else (if (wrap64 ((wrap64 (x1 + x9)) + 1)) < 0 then (some (0, 0, 10)) else (some (Go.bits .or .u64 x7 (shl .u64 (IntKind.u64.wrap (x10)) (wrap64 (7 * x9))), wrap64 ((wrap64 (x1 + x9)) + 1), 0)))) else (none)) else (if 0 ≤ (wrap64 (7 * x9)) then (vint_Get.l0 k x1 (Go.bits .or .u64 x7 (shl .u64 (IntKind.u64.wrap (Go.bits .and .u8 x10 127)) (wrap64 (7 * x9)))) x8 x21 x22 (wrap64 (x23 + 1))) else (none)))
end
def vint_Get.f (k : Nat) (l0 : List Int) (a1 : Int) : Option (Int × Int × Int) := if a1 < 0 then (vint_Get.j0 k l0 a1 true) else (vint_Get.j0 k l0 a1 (decide (a1 > (l0.length : Int))))
theorem vint_Get.mono_l : ∀ k, (∀ y0 y1 y2, LeO (vint_Get.j0 k y0 y1 y2) (vint_Get.j0 (k + 1) y0 y1 y2)) ∧ (∀ y0 y1 y2 y3 y4 y5, LeO (vint_Get.l0 k y0 y1 y2 y3 y4 y5) (vint_Get.l0 (k + 1) y0 y1 y2 y3 y4 y5)) ∧ (∀ y0 y1 y2 y3 y4 y5 y6 y7 y8, LeO (vint_Get.j2 k y0 y1 y2 y3 y4 y5 y6 y7 y8) (vint_Get.j2 (k + 1) y0 y1 y2 y3 y4 y5 y6 y7 y8))
 | 0 => ⟨fun _ _ _ r h => by simp [vint_Get.j0] at h, fun _ _ _ _ _ _ r h => by simp [vint_Get.l0] at h, fun _ _ _ _ _ _ _ _ _ r h => by simp [vint_Get.j2] at h⟩
 | k + 1 => by
  obtain ⟨ih0, ih1, ih2⟩ := vint_Get.mono_l k
  refine ⟨?_, ?_, ?_⟩
  ·intro y0 y1 y2
   unfold vint_Get.j0
   repeat' first
   | (with_reducible exact ih0 _ _ _)
   | (with_reducible exact ih1 _ _ _ _ _ _)
   | (with_reducible exact ih2 _ _ _ _ _ _ _ _ _)
   | (with_reducible exact LeO.refl _)
   | (with_reducible exact LeO.none _)
   | (with_reducible refine LeO.ite ?_ ?_)
   | (with_reducible refine LeO.bind ?_ (fun _ => ?_))
   | exact ih0 _ _ _
   | exact ih1 _ _ _ _ _ _
   | exact ih2 _ _ _ _ _ _ _ _ _
   | exact LeO.none _
   | refine LeO.ite ?_ ?_
   | refine LeO.bind ?_ (fun _ => ?_)
  ·intro y0 y1 y2 y3 y4 y5
   unfold vint_Get.l0
   repeat' first
   | (with_reducible exact ih0 _ _ _)
   | (with_reducible exact ih1 _ _ _ _ _ _)
   | (with_reducible exact ih2 _ _ _ _ _ _ _ _ _)
   | (with_reducible exact LeO.refl _)
   | (with_reducible exact LeO.none _)
   | (with_reducible refine LeO.ite ?_ ?_)
   | (with_reducible refine LeO.bind ?_ (fun _ => ?_))
   | exact ih0 _ _ _
   | exact ih1 _ _ _ _ _ _
   | exact ih2 _ _ _ _ _ _ _ _ _
   | exact LeO.none _
   | refine LeO.ite ?_ ?_
   | refine LeO.bind ?_ (fun _ => ?_)
  ·intro y0 y1 y2 y3 y4 y5 y6 y7 y8
   unfold vint_Get.j2
   repeat' first
   | (with_reducible exact ih0 _ _ _)
   | (with_reducible exact ih1 _ _ _ _ _ _)
   | (with_reducible exact ih2 _ _ _ _ _ _ _ _ _)
   | (with_reducible exact LeO.refl _)
   | (with_reducible exact LeO.none _)
   | (with_reducible refine LeO.ite ?_ ?_)
   | (with_reducible refine LeO.bind ?_ (fun _ => ?_))
   | exact ih0 _ _ _
   | exact ih1 _ _ _ _ _ _
   | exact ih2 _ _ _ _ _ _ _ _ _
   | exact LeO.none _
   | refine LeO.ite ?_ ?_
   | refine LeO.bind ?_ (fun _ => ?_)
theorem vint_Get.mono : ∀ a0 a1 k, LeO (vint_Get.f k a0 a1) (vint_Get.f (k + 1) a0 a1) := by
 intro a0 a1 k
 obtain ⟨ih0, ih1, ih2⟩ := vint_Get.mono_l k
 unfold vint_Get.f
 repeat' first
   | (with_reducible exact ih0 _ _ _)
   | (with_reducible exact ih1 _ _ _ _ _ _)
   | (with_reducible exact ih2 _ _ _ _ _ _ _ _ _)
   | (with_reducible exact LeO.refl _)
   | (with_reducible exact LeO.none _)
   | (with_reducible refine LeO.ite ?_ ?_)
   | (with_reducible refine LeO.bind ?_ (fun _ => ?_))
   | exact ih0 _ _ _
   | exact ih1 _ _ _ _ _ _
   | exact ih2 _ _ _ _ _ _ _ _ _
   | exact LeO.none _
   | refine LeO.ite ?_ ?_
   | refine LeO.bind ?_ (fun _ => ?_)
set_option maxHeartbeats 8000000 in
set_option maxRecDepth 100000 in
theorem vint_Get.calls (k : Nat) (A0 : Option Addr) (c0 : Nat) (l0 : List Int) (a1 : Int) (r1 : Int) (r2 : Int) (r3 : Int) (w : World) (hr0 : Kd.C (Kd.int .u8) w A0 l0.length l0) (hc0 : l0.length ≤ c0) (h : vint_Get.f k l0 a1 = some (r1, r2, r3)) :
  Calls Tryz.prog 91 #[.slice A0 l0.length c0, .int .i64 a1] w fun e w' => e = .returned (.tuple #[.int .u64 r1, .int .i64 r2, .int .i64 r3]) ∧ Drawn0 w w' := by
 have HR0 := Aside0.mk hr0
 have HC0 := Aside0.mk hc0
 clear hr0 hc0
 have H : (if a1 < 0 then (vint_Get.j0 k l0 a1 true) else (vint_Get.j0 k l0 a1 (decide (a1 > (l0.length : Int))))) = some (r1, r2, r3) := h
 clear h
 have HC3 := Aside0.mk H
 clear H
 go_enter Tryz.func91, Tryz.ntmps91
 go_upto_region 1 with (go_step3)
 go_cut [18] (fun v18 wc => ∃ (kq : Nat) (x18_2 : Bool), v18 = .bool x18_2 ∧ Aside0 (vint_Get.j0 kq l0 a1 x18_2 = some (r1, r2, r3)) ∧ Aside0 (kq ≤ k) ∧ Drawn0 w wc)
 case first =>
  have H := HC3.out
  clear HC3
  by_cases c4 : a1 < 0
  ·rw [if_pos c4] at H
   have c4b0 : decide (a1 < 0) = true := decide_eq_true c4
   clear c4
   (first | rw [c4b0] | (simp only [i64_w, i32_w]; rw [c4b0]) | skip)
   have H' := Aside0.mk H
   clear H
   go_wp2_with (go_step3)
   go_meet
   case rel => exact ⟨_, (true), (by first | rfl | (simp; done) | (simp [*]; done)), H', ⟨by first | omega | exact Nat.le_refl _⟩, by repeat (first | exact Drawn0.refl _ | apply Drawn0.step)⟩
  ·rw [if_neg c4] at H
   have c4b0 : decide (a1 < 0) = false := decide_eq_false c4
   clear c4
   (first | rw [c4b0] | (simp only [i64_w, i32_w]; rw [c4b0]) | skip)
   have H' := Aside0.mk H
   clear H
   go_wp2_with (go_step3)
   go_meet
   case rel => exact ⟨_, (decide (a1 > (l0.length : Int))), (by first | rfl | (simp; done) | (simp [*]; done)), H', ⟨by first | omega | exact Nat.le_refl _⟩, by repeat (first | exact Drawn0.refl _ | apply Drawn0.step)⟩
 case rest =>
  clear HC3
  try clear p2
  try clear c4
  try clear c4b0
  obtain ⟨kq, x18_2, rfl, HA, HJ2, ⟨mc2, rfl⟩⟩ := hcut
  cases kq with
  | zero => exact absurd HA.out (by simp [vint_Get.j0])
  | succ kj2 =>
   have H := HA.out
   clear HA
   simp only [vint_Get.j0] at H
   by_cases c5 : x18_2 = true
   ·subst c5
    have H1 : (some (0, 0, 2)) = some (r1, r2, r3) := by rw [if_pos rfl] at H; exact H
    clear H
    have H := H1
    clear H1
    simp only [Option.some.injEq, Prod.mk.injEq] at H
    obtain ⟨rfl, rfl, rfl⟩ := H
    go_wp2_with (go_step3)
    (try rw [Exit.noGoto_ret])
    go_ret3
    exact ⟨by first | rfl | (simp; done) | (simp [*]; done), by repeat (first | exact Drawn0.refl _ | apply Drawn0.step)⟩
   ·replace c5 := Bool.eq_false_iff.mpr c5
    subst c5
    have H1 : (if 0 ≤ a1 then (if a1 ≤ (l0.length : Int) then (vint_Get.l0 kj2 a1 0 (-1) (l0.drop (a1 : Int).toNat) ((l0.drop (a1 : Int).toNat).length : Int) 0) else (none)) else (none)) = some (r1, r2, r3) := by rw [if_neg (show ¬ (false = true) by decide)] at H; exact H
    clear H
    have H := H1
    clear H1
    by_cases c6 : 0 ≤ a1
    ·rw [if_pos c6] at H
     have c6b0 := eq_true c6
     have c6b1 : decide (0 ≤ a1) = true := decide_eq_true c6
     clear c6
     by_cases c7 : a1 ≤ (l0.length : Int)
     ·rw [if_pos c7] at H
      have c7b0 := eq_true c7
      have c7b1 : decide (a1 ≤ (l0.length : Int)) = true := decide_eq_true c7
      clear c7
      have H' := Aside0.mk H
      clear H
      obtain ⟨i08, hi08, _, hsz8, _⟩ := info_parts info5
      obtain ⟨A8, hcut8, hA8, hC8⟩ := print_drop_of (P := Tryz.prog) (Value.int .u8) 0 26 5 .i64 Tryz.underlying26 hi08 hsz8 A0 c0 l0 a1 (of_decide_eq_true (by first | (with_reducible assumption) | assumption)) (of_decide_eq_true (by first | (with_reducible assumption) | assumption)) HC0.out
      have HR125 := Aside0.mk (Kd.C_of_reads (h1 := fun _ => rfl) (hA8 _ (Kd.reads_of_C HR0.out)))
      have HC125 := Aside0.mk hC8
      clear hA8 hC8 hi08 hsz8
      go_wp2_with (go_step3)
      go_loopg [7, 8, 23] kj2 (fun kq v7 v8 v23 w' => ∃ (x7_2 : Int) (x8_2 : Int) (x23_2 : Int), v7 = .int .u64 x7_2 ∧ v8 = .int .i64 x8_2 ∧ v23 = .int .i64 x23_2 ∧ Aside0 (vint_Get.l0 kq a1 x7_2 x8_2 (l0.drop (a1 : Int).toNat) ((l0.drop (a1 : Int).toNat).length : Int) x23_2 = some (r1, r2, r3)) ∧ Aside0 (kq ≤ kj2) ∧ Drawn0 w w')
      case atStart => exact ⟨(0), ((-1)), (0), (by first | rfl | (simp; done) | (simp [*]; done)), (by first | rfl | (simp; done) | (simp [*]; done)), (by first | rfl | (simp; done) | (simp [*]; done)), H', ⟨Nat.le_refl _⟩, by repeat (first | exact Drawn0.refl _ | apply Drawn0.step)⟩
      case round =>
       clear H'
       try clear c2
       try clear p2
       try clear c4
       try clear c4b0
       try clear c5
       try clear c6
       try clear c6b0
       try clear c6b1
       try clear c7
       try clear c7b0
       try clear c7b1
       try clear p2
       obtain ⟨x7_2, x8_2, x23_2, rfl, rfl, rfl, HA, HK2, ⟨m2, rfl⟩⟩ := hrel
       cases gk with
       | zero => exact absurd HA.out (by simp [vint_Get.l0])
       | succ k2 =>
        have H := HA.out
        clear HA
        simp only [vint_Get.l0] at H
        by_cases c9 : x23_2 < ((l0.drop (a1 : Int).toNat).length : Int)
        ·rw [if_pos c9] at H
         have c9b0 : decide (x23_2 < ((l0.drop (a1 : Int).toNat).length : Int)) = true := decide_eq_true c9
         have c9b0d := c9b0; simp only [List.length_drop] at c9b0d
         clear c9
         by_cases c10 : 0 ≤ x23_2
         ·rw [if_pos c10] at H
          have c10b0 : decide (0 ≤ x23_2) = true := decide_eq_true c10
          clear c10
          by_cases c11 : x23_2 < ((l0.drop (a1 : Int).toNat).length : Int)
          ·rw [if_pos c11] at H
           have c11b0 : decide (x23_2 < ((l0.drop (a1 : Int).toNat).length : Int)) = true := decide_eq_true c11
           have c11b0d := c11b0; simp only [List.length_drop] at c11b0d
           clear c11
           have HC12 := Aside0.mk H
           clear H
           have p126 : 0 ≤ (x23_2 : Int) := of_decide_eq_true (by first | (with_reducible assumption) | assumption)
           have q126 : x23_2 < ((l0.drop (a1 : Int).toNat).length : Int) := of_decide_eq_true (by first | (with_reducible assumption) | assumption)
           obtain ⟨ad126, e126, hx126_0⟩ := Kd.at_int HR125.out x23_2 p126 q126
           cases e126
           replace p126 := eq_true p126
           have q126d := q126
           (try simp only [List.length_drop] at q126d)
           replace q126d := eq_true q126d
           replace q126 := eq_true q126
           go_upto_region 8 with (go_step3)
           go_cut [28] (fun v28 wc => ∃ (kq : Nat) (x28_11 : Bool), v28 = .bool x28_11 ∧ Aside0 (vint_Get.j2 kq a1 x7_2 x8_2 x23_2 (rd (l0.drop (a1 : Int).toNat) x23_2) (l0.drop (a1 : Int).toNat) ((l0.drop (a1 : Int).toNat).length : Int) x23_2 x28_11 = some (r1, r2, r3)) ∧ Aside0 (kq ≤ k2) ∧ Drawn0 w wc)
           case first =>
            have H := HC12.out
            clear HC12
            by_cases c13 : x23_2 > 9
            ·rw [if_pos c13] at H
             have c13b0 : decide (9 < x23_2) = true := decide_eq_true c13
             clear c13
             (first | rw [c13b0] | (simp only [i64_w, i32_w]; rw [c13b0]) | skip)
             have H' := Aside0.mk H
             clear H
             go_wp2_with (go_step3)
             go_meet
             case rel => exact ⟨_, (true), (by first | rfl | (simp; done) | (simp [*]; done)), H', ⟨by have := HJ2.out; have := HK2.out; first | omega | exact Nat.le_refl _⟩, by repeat (first | exact Drawn0.refl _ | apply Drawn0.step)⟩
            ·rw [if_neg c13] at H
             have c13b0 : decide (9 < x23_2) = false := decide_eq_false c13
             clear c13
             (first | rw [c13b0] | (simp only [i64_w, i32_w]; rw [c13b0]) | skip)
             by_cases c14 : x23_2 = 9
             ·rw [if_pos c14] at H
              have c14b0 : (x23_2 == 9) = true := beq_iff_eq.mpr c14
              have c14b1 : (x23_2 != 9) = false := bne_eq_false_iff_eq.mpr c14
              clear c14
              have H' := Aside0.mk H
              clear H
              go_wp2_with (go_step3)
              go_meet
              case rel => exact ⟨_, (decide ((rd (l0.drop (a1 : Int).toNat) x23_2) > 1)), (by first | rfl | (simp; done) | (simp [*]; done)), H', ⟨by have := HJ2.out; have := HK2.out; first | omega | exact Nat.le_refl _⟩, by repeat (first | exact Drawn0.refl _ | apply Drawn0.step)⟩
             ·rw [if_neg c14] at H
              have c14b0 : (x23_2 == 9) = false := beq_eq_false_iff_ne.mpr c14
              have c14b1 : (x23_2 != 9) = true := bne_iff_ne.mpr c14
              have H' := Aside0.mk H
              clear H
              go_wp2_with (go_step3)
              go_meet
              case rel => exact ⟨_, (false), (by first | rfl | (simp; done) | (simp [*]; done)), H', ⟨by have := HJ2.out; have := HK2.out; first | omega | exact Nat.le_refl _⟩, by repeat (first | exact Drawn0.refl _ | apply Drawn0.step)⟩
           case rest =>
            clear HC12
            try clear c1
            try clear p1
            try clear q1
            try clear hx1
            try clear c2
            try clear p2
            try clear c4
            try clear c4b0
            try clear c5
            try clear c6
            try clear c6b0
            try clear c6b1
            try clear c7
            try clear c7b0
            try clear c7b1
            try clear c9
            try clear c9b0
            try clear c10
            try clear c10b0
            try clear c11
            try clear c11b0
            try clear p12
            try clear q12
            try clear hx12
            try clear c13
            try clear c13b0
            try clear c14
            try clear c14b0
            try clear c14b1
            try clear hx126_0
            try clear p126
            try clear p2
            try clear q126
            obtain ⟨kq, x28_11, rfl, HA, HJ11, ⟨mc11, rfl⟩⟩ := hcut
            cases kq with
            | zero => exact absurd HA.out (by simp [vint_Get.j2])
            | succ kj11 =>
             have H := HA.out
             clear HA
             simp only [vint_Get.j2] at H
             by_cases c15 : x28_11 = true
             ·subst c15
              have H1 : (some (0, 0, 11)) = some (r1, r2, r3) := by rw [if_pos rfl] at H; exact H
              clear H
              have H := H1
              clear H1
              simp only [Option.some.injEq, Prod.mk.injEq] at H
              obtain ⟨rfl, rfl, rfl⟩ := H
              go_wp2_with (go_step3)
              (try rw [Exit.noGoto_ret])
              go_ret3
              exact ⟨by first | rfl | (simp; done) | (simp [*]; done), by repeat (first | exact Drawn0.refl _ | apply Drawn0.step)⟩
             ·replace c15 := Bool.eq_false_iff.mpr c15
              subst c15
              have H1 : (if (rd (l0.drop (a1 : Int).toNat) x23_2) < 128 then (if 0 ≤ (wrap64 (7 * x23_2)) then (if (rd (l0.drop (a1 : Int).toNat) x23_2) = 0 then (if x23_2 > 0 then (some (0, 0, 11)) else (if (wrap64 ((wrap64 (a1 + x23_2)) + 1)) < 0 then (some (0, 0, 10)) else (some (Go.bits .or .u64 x7_2 (shl .u64 (IntKind.u64.wrap ((rd (l0.drop (a1 : Int).toNat) x23_2))) (wrap64 (7 * x23_2))), wrap64 ((wrap64 (a1 + x23_2)) + 1), 0)))) else (if (wrap64 ((wrap64 (a1 + x23_2)) + 1)) < 0 then (some (0, 0, 10)) else (some (Go.bits .or .u64 x7_2 (shl .u64 (IntKind.u64.wrap ((rd (l0.drop (a1 : Int).toNat) x23_2))) (wrap64 (7 * x23_2))), wrap64 ((wrap64 (a1 + x23_2)) + 1), 0)))) else (none)) else (if 0 ≤ (wrap64 (7 * x23_2)) then (vint_Get.l0 kj11 a1 (Go.bits .or .u64 x7_2 (shl .u64 (IntKind.u64.wrap (Go.bits .and .u8 (rd (l0.drop (a1 : Int).toNat) x23_2) 127)) (wrap64 (7 * x23_2)))) x8_2 (l0.drop (a1 : Int).toNat) ((l0.drop (a1 : Int).toNat).length : Int) (wrap64 (x23_2 + 1))) else (none))) = some (r1, r2, r3) := by rw [if_neg (show ¬ (false = true) by decide)] at H; exact H
              clear H
              have H := H1
              clear H1
              by_cases c16 : (rd (l0.drop (a1 : Int).toNat) x23_2) < 128
              ·rw [if_pos c16] at H
               have c16b0 : decide ((rd (l0.drop (a1 : Int).toNat) x23_2) < 128) = true := decide_eq_true c16
               clear c16
               obtain ⟨ji17, hji17⟩ : ∃ j_ : Int, (wrap64 (7 * x23_2)) = j_ := ⟨_, rfl⟩
               replace H : (if 0 ≤ (ji17) then (if (rd (l0.drop (a1 : Int).toNat) x23_2) = 0 then (if x23_2 > 0 then (some (0, 0, 11)) else (if (wrap64 ((wrap64 (a1 + x23_2)) + 1)) < 0 then (some (0, 0, 10)) else (some (Go.bits .or .u64 x7_2 (shl .u64 (IntKind.u64.wrap ((rd (l0.drop (a1 : Int).toNat) x23_2))) (ji17)), wrap64 ((wrap64 (a1 + x23_2)) + 1), 0)))) else (if (wrap64 ((wrap64 (a1 + x23_2)) + 1)) < 0 then (some (0, 0, 10)) else (some (Go.bits .or .u64 x7_2 (shl .u64 (IntKind.u64.wrap ((rd (l0.drop (a1 : Int).toNat) x23_2))) (ji17)), wrap64 ((wrap64 (a1 + x23_2)) + 1), 0)))) else (none)) = some (r1, r2, r3) := by first | (rw [hji17] at H; exact H) | (simp only [hji17] at H ⊢; exact H)
               have hji17w : (IntKind.i64.wrap (7 * x23_2)) = ji17 := (i64_w _).trans hji17
               by_cases c18 : 0 ≤ (ji17)
               ·rw [if_pos c18] at H
                have c18b0 := eq_true c18
                have c18b1 : decide (0 ≤ (ji17)) = true := decide_eq_true c18
                clear c18
                obtain ⟨ji19, hji19⟩ : ∃ j_ : Int, (shl .u64 (IntKind.u64.wrap ((rd (l0.drop (a1 : Int).toNat) x23_2))) (ji17)) = j_ := ⟨_, rfl⟩
                replace H : (if (rd (l0.drop (a1 : Int).toNat) x23_2) = 0 then (if x23_2 > 0 then (some (0, 0, 11)) else (if (wrap64 ((wrap64 (a1 + x23_2)) + 1)) < 0 then (some (0, 0, 10)) else (some (Go.bits .or .u64 x7_2 (ji19), wrap64 ((wrap64 (a1 + x23_2)) + 1), 0)))) else (if (wrap64 ((wrap64 (a1 + x23_2)) + 1)) < 0 then (some (0, 0, 10)) else (some (Go.bits .or .u64 x7_2 (ji19), wrap64 ((wrap64 (a1 + x23_2)) + 1), 0)))) = some (r1, r2, r3) := by first | (rw [hji19] at H; exact H) | (simp only [hji19] at H ⊢; exact H)
                have hji19_ : (IntKind.u64.wrap ((IntKind.u64.wrap ((rd (l0.drop (a1 : Int).toNat) x23_2))) * 2 ^ min (ji17).toNat 64)) = ji19 := hji19
                have hji19z : (ji17) ≤ 64 → (IntKind.u64.wrap ((IntKind.u64.wrap ((rd (l0.drop (a1 : Int).toNat) x23_2))) * 2 ^ (ji17).toNat)) = ji19 := shl_small hji19
                by_cases c20 : (rd (l0.drop (a1 : Int).toNat) x23_2) = 0
                ·rw [if_pos c20] at H
                 have c20b0 : ((rd (l0.drop (a1 : Int).toNat) x23_2) == 0) = true := beq_iff_eq.mpr c20
                 have c20b1 : ((rd (l0.drop (a1 : Int).toNat) x23_2) != 0) = false := bne_eq_false_iff_eq.mpr c20
                 clear c20
                 by_cases c21 : x23_2 > 0
                 ·rw [if_pos c21] at H
                  have c21b0 : decide (0 < x23_2) = true := decide_eq_true c21
                  clear c21
                  simp only [Option.some.injEq, Prod.mk.injEq] at H
                  obtain ⟨rfl, rfl, rfl⟩ := H
                  go_wp2_with (go_step3)
                  (try rw [Exit.noGoto_ret])
                  go_ret3
                  exact ⟨by first | rfl | (simp; done) | (simp only [← hji17, ← hji19] <;> (first | rfl | simp)) | (simp [*]; done), by repeat (first | exact Drawn0.refl _ | apply Drawn0.step)⟩
                 ·rw [if_neg c21] at H
                  have c21b0 : decide (0 < x23_2) = false := decide_eq_false c21
                  clear c21
                  by_cases c22 : (wrap64 ((wrap64 (a1 + x23_2)) + 1)) < 0
                  ·rw [if_pos c22] at H
                   have c22b0 : decide ((wrap64 ((wrap64 (a1 + x23_2)) + 1)) < 0) = true := decide_eq_true c22
                   clear c22
                   simp only [Option.some.injEq, Prod.mk.injEq] at H
                   obtain ⟨rfl, rfl, rfl⟩ := H
                   go_wp2_with (go_step3)
                   (try rw [Exit.noGoto_ret])
                   go_ret3
                   exact ⟨by first | rfl | (simp; done) | (simp only [← hji17, ← hji19] <;> (first | rfl | simp)) | (simp [*]; done), by repeat (first | exact Drawn0.refl _ | apply Drawn0.step)⟩
                  ·rw [if_neg c22] at H
                   have c22b0 : decide ((wrap64 ((wrap64 (a1 + x23_2)) + 1)) < 0) = false := decide_eq_false c22
                   clear c22
                   simp only [Option.some.injEq, Prod.mk.injEq] at H
                   obtain ⟨rfl, rfl, rfl⟩ := H
                   go_wp2_with (go_step3)
                   (try rw [Exit.noGoto_ret])
                   go_ret3
                   exact ⟨by first | rfl | (simp; done) | (simp only [← hji17, ← hji19] <;> (first | rfl | simp)) | (simp [*]; done), by repeat (first | exact Drawn0.refl _ | apply Drawn0.step)⟩
                ·rw [if_neg c20] at H
                 have c20b0 : ((rd (l0.drop (a1 : Int).toNat) x23_2) == 0) = false := beq_eq_false_iff_ne.mpr c20
                 have c20b1 : ((rd (l0.drop (a1 : Int).toNat) x23_2) != 0) = true := bne_iff_ne.mpr c20
                 by_cases c23 : (wrap64 ((wrap64 (a1 + x23_2)) + 1)) < 0
                 ·rw [if_pos c23] at H
                  have c23b0 : decide ((wrap64 ((wrap64 (a1 + x23_2)) + 1)) < 0) = true := decide_eq_true c23
                  clear c23
                  simp only [Option.some.injEq, Prod.mk.injEq] at H
                  obtain ⟨rfl, rfl, rfl⟩ := H
                  go_wp2_with (go_step3)
                  (try rw [Exit.noGoto_ret])
                  go_ret3
                  exact ⟨by first | rfl | (simp; done) | (simp only [← hji17, ← hji19] <;> (first | rfl | simp)) | (simp [*]; done), by repeat (first | exact Drawn0.refl _ | apply Drawn0.step)⟩
                 ·rw [if_neg c23] at H
                  have c23b0 : decide ((wrap64 ((wrap64 (a1 + x23_2)) + 1)) < 0) = false := decide_eq_false c23
                  clear c23
                  simp only [Option.some.injEq, Prod.mk.injEq] at H
                  obtain ⟨rfl, rfl, rfl⟩ := H
                  go_wp2_with (go_step3)
                  (try rw [Exit.noGoto_ret])
                  go_ret3
                  exact ⟨by first | rfl | (simp; done) | (simp only [← hji17, ← hji19] <;> (first | rfl | simp)) | (simp [*]; done), by repeat (first | exact Drawn0.refl _ | apply Drawn0.step)⟩
               ·rw [if_neg c18] at H
                exact absurd H (by simp)
              ·rw [if_neg c16] at H
               have c16b0 : decide ((rd (l0.drop (a1 : Int).toNat) x23_2) < 128) = false := decide_eq_false c16
               clear c16
               obtain ⟨ji24, hji24⟩ : ∃ j_ : Int, (wrap64 (7 * x23_2)) = j_ := ⟨_, rfl⟩
               replace H : (if 0 ≤ (ji24) then (vint_Get.l0 kj11 a1 (Go.bits .or .u64 x7_2 (shl .u64 (IntKind.u64.wrap (Go.bits .and .u8 (rd (l0.drop (a1 : Int).toNat) x23_2) 127)) (ji24))) x8_2 (l0.drop (a1 : Int).toNat) ((l0.drop (a1 : Int).toNat).length : Int) (wrap64 (x23_2 + 1))) else (none)) = some (r1, r2, r3) := by first | (rw [hji24] at H; exact H) | (simp only [hji24] at H ⊢; exact H)
               have hji24w : (IntKind.i64.wrap (7 * x23_2)) = ji24 := (i64_w _).trans hji24
               by_cases c25 : 0 ≤ (ji24)
               ·rw [if_pos c25] at H
                have c25b0 := eq_true c25
                have c25b1 : decide (0 ≤ (ji24)) = true := decide_eq_true c25
                clear c25
                obtain ⟨ji26, hji26⟩ : ∃ j_ : Int, (shl .u64 (IntKind.u64.wrap (Go.bits .and .u8 (rd (l0.drop (a1 : Int).toNat) x23_2) 127)) (ji24)) = j_ := ⟨_, rfl⟩
                replace H : (vint_Get.l0 kj11 a1 (Go.bits .or .u64 x7_2 (ji26)) x8_2 (l0.drop (a1 : Int).toNat) ((l0.drop (a1 : Int).toNat).length : Int) (wrap64 (x23_2 + 1))) = some (r1, r2, r3) := by first | (rw [hji26] at H; exact H) | (simp only [hji26] at H ⊢; exact H)
                have hji26_ : (IntKind.u64.wrap ((IntKind.u64.wrap (Go.bits .and .u8 (rd (l0.drop (a1 : Int).toNat) x23_2) 127)) * 2 ^ min (ji24).toNat 64)) = ji26 := hji26
                have hji26z : (ji24) ≤ 64 → (IntKind.u64.wrap ((IntKind.u64.wrap (Go.bits .and .u8 (rd (l0.drop (a1 : Int).toNat) x23_2) 127)) * 2 ^ (ji24).toNat)) = ji26 := shl_small hji26
                have H' := Aside0.mk H
                clear H
                go_wp2_with (go_step3)
                go_roundg kj11
                case measure => have := HJ2.out; have := HK2.out; have := HJ11.out; omega
                case rel => exact ⟨(Go.bits .or .u64 x7_2 (ji26)), (x8_2), (wrap64 (x23_2 + 1)), (by first | rfl | (simp; done) | (simp only [← hji26] <;> (first | rfl | simp)) | (simp [*]; done)), (by first | rfl | (simp; done) | (simp [*]; done)), (by first | rfl | (simp; done) | (simp [*]; done)), H', ⟨by have := HJ2.out; have := HK2.out; have := HJ11.out; omega⟩, by repeat (first | exact Drawn0.refl _ | apply Drawn0.step)⟩
               ·rw [if_neg c25] at H
                exact absurd H (by simp)
          ·rw [if_neg c11] at H
           exact absurd H (by simp)
         ·rw [if_neg c10] at H
          exact absurd H (by simp)
        ·rw [if_neg c9] at H
         have c9b0 : decide (x23_2 < ((l0.drop (a1 : Int).toNat).length : Int)) = false := decide_eq_false c9
         have c9b0d := c9b0; simp only [List.length_drop] at c9b0d
         clear c9
         by_cases c27 : x8_2 < 0
         ·rw [if_pos c27] at H
          have c27b0 : decide (x8_2 < 0) = true := decide_eq_true c27
          clear c27
          simp only [Option.some.injEq, Prod.mk.injEq] at H
          obtain ⟨rfl, rfl, rfl⟩ := H
          go_wp2_with (go_step3)
          (try rw [Exit.noGoto_ret])
          go_ret3
          exact ⟨by first | rfl | (simp; done) | (simp [*]; done), by repeat (first | exact Drawn0.refl _ | apply Drawn0.step)⟩
         ·rw [if_neg c27] at H
          have c27b0 : decide (x8_2 < 0) = false := decide_eq_false c27
          clear c27
          simp only [Option.some.injEq, Prod.mk.injEq] at H
          obtain ⟨rfl, rfl, rfl⟩ := H
          go_wp2_with (go_step3)
          (try rw [Exit.noGoto_ret])
          go_ret3
          exact ⟨by first | rfl | (simp; done) | (simp [*]; done), by repeat (first | exact Drawn0.refl _ | apply Drawn0.step)⟩
     ·rw [if_neg c7] at H
      exact absurd H (by simp)
    ·rw [if_neg c6] at H
     exact absurd H (by simp)
end Go.Proofs.YtbdbobjdlomjnaaGreatDoor.P
