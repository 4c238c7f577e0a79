/- Symbols of one model, coded: Encode. No condition. Bytes packed: Pack. No condition. The reader in memory: a digit more; whether two rows of bytes are the same. No condition. -/
import Derived.Test.YtbdbobjdlomjnaaGreatDoorZ4

namespace Go.Proofs.YtbdbobjdlomjnaaGreatDoor.Ec
set_option linter.unusedVariables false
set_option linter.unusedSimpArgs false
open Go Go.RowKit Go.Proofs.YtbdbobjdlomjnaaGreatDoor.P Go.Proofs.YtbdbobjdlomjnaaGreatDoor.X Go.Proofs.YtbdbobjdlomjnaaGreatDoorW.PrintWords Go.Proofs.YtbdbobjdlomjnaaGreatDoorW.PrintLast Go.Proofs.YtbdbobjdlomjnaaGreatDoorW.PrintMore
set_option maxHeartbeats 8000000
set_option maxRecDepth 100000
abbrev Sym := S122
def codesOf (l : List Int) : List Sym := l.map fun x => ⟨0, x⟩
theorem codesOf_len (l : List Int) : (codesOf l).length = l.length := by simp [codesOf]
theorem codesOf_rd (l : List Int) (i : Nat) (h : i < l.length) : rd_T122 (codesOf l) (i : Int) = ⟨0, l[i]⟩ := by
 unfold rd_T122 codesOf
 simp [List.getD, List.getElem?_map, List.getElem?_eq_getElem h]
theorem codesV_snoc : ∀ (l : List Int) (s : CS) (x : Int), codesV s (l ++ [x]) = codeV (codesV s l) x
 | [], s, x => rfl
 | y :: l, s, x => codesV_snoc l (codeV s y) x
theorem codesV_nw {l : List Int} (hl : ∀ x ∈ l, In x) : COk (codesV s0C l) ∧ (codesV s0C l).w.out.length + (codesV s0C l).w.held ≤ 1 + 2 * l.length := by
 obtain ⟨h, e⟩ := codesV_of l s0C cok0 hl
 refine ⟨h, ?_⟩
 have := stepsA_n l s0A
 rw [abs0] at e
 rw [← e] at this
 have e2 : (absC (codesV s0C l)).n = (codesV s0C l).w.out.length + (codesV s0C l).w.held + 4 := rfl
 have e3 : s0A.n = 5 := rfl
 omega
theorem cd_new {base : Nat} {w : World} {h g gc bm cm : Nat} (hh : w.heap[h]? = some (.cells (cc (.slice (some ⟨bm, 0, none⟩) 1 cm) 4294967295 (.slice none 0 0) ws0) 239 (0, 0))) (hm : Mo w g gc (List.replicate 256 1) 256) (hp : w.cell? ⟨bm, 0, none⟩ = some (.pointer (some ⟨g, 0, none⟩)))
  (h0 : base ≤ h) (h1 : base ≤ g) (h2 : base ≤ gc) (n1 : h ≠ g) (n2 : h ≠ gc) (n3 : bm ≠ h) (n4 : bm ≠ g) (n5 : bm ≠ gc) : Cd base w h g gc bm cm (.slice none 0 0) s0C :=
 ⟨⟨h0, hh, Kd.R_nil _ _ _ _ _, fun h => h.1 rfl⟩, by
  have e : sumI s0C.c = 256 := by decide +kernel
  rw [e]
  exact hm, hp, h1, h2, n1, n2, n3, n4, n5⟩
theorem encode_calls (w : World) (b : Nat) (A : Option Addr) (c : Nat) (l : List Int) (hl : ∀ x ∈ l, In x) (hn : l.length ≤ 65536) (hb : w.cell? ⟨b, 0, none⟩ = some (.int .i64 256)) (hr : Kd.C k122 w A l.length (codesOf l)) :
  Calls Tryz.prog 109 #[.slice (some ⟨b, 0, none⟩) 1 1, .slice A l.length c] w fun e w' => ∃ vo, e = .returned (.tuple #[vo, .int .i64 0]) ∧ Kd.R (Kd.int .u8) 5 w' w.heap.size (fun _ => True) vo (encV l) ∧ Below w.heap.size w w' := by
 have hu := Tryz.underlying226
 have hu2 := Tryz.underlying122
 have hbeg := begun_calls w b hb
 go_enter Tryz.func109, Tryz.ntmps109
 go_upto_region 4 with (first | (go_at_call 149; refine hbeg.mono ?_; rintro e w1 ⟨g, gc, bm, cm, rfl, hM1, hp1, hg1, hgc1, hbm1, n4, n5, hb1⟩) | go_step3)
 have hb2 : Below w1.heap.size w1 (w1.alloc (.cells #[.slice (some ⟨bm, 0, none⟩) 1 cm, .int .u32 4294967295] 226)) := below_alloc (Below.refl _ w1) _
 have hg2 := heap_alloc_new w1 (.cells #[.slice (some ⟨bm, 0, none⟩) 1 cm, .int .u32 4294967295] 226)
 generalize w1.alloc (.cells #[.slice (some ⟨bm, 0, none⟩) 1 cm, .int .u32 4294967295] 226) = w2 at hb2 hg2 ⊢
 have z0 : w2.cell? ⟨w1.heap.size, 0, none⟩ = some (.slice (some ⟨bm, 0, none⟩) 1 cm) := (blk_cell hg2 0).trans rfl
 have z1 : w2.cell? ⟨w1.heap.size, 1, none⟩ = some (.int .u32 4294967295) := (blk_cell hg2 1).trans rfl
 have hrdy := ready_calls w2 bm cm 4294967295
 go_upto_region 6 with (first | (go_at_call 152; refine hrdy.mono ?_; rintro e w3 ⟨h, rfl, hh3, hg3, hb3⟩))
 have hb13 := below_step hb2 hb3
 have hB3 := below_step hb1 hb13
 have hM3 := hM1.below hb13
 have hp3 := (hb13.cell (World.block_lt_of_cell? _ _ hp1)).trans hp1
 have l1 := blk_lt hM1.hm
 have l2 := blk_lt hM1.hc
 have l3 : bm < w1.heap.size := World.block_lt_of_cell? _ _ hp1
 have l4 := hb2.size
 have l5 := hb1.size
 have hcd : Cd w.heap.size w3 h g gc bm cm (.slice none 0 0) s0C := cd_new hg3 hM3 hp3 (by omega) hg1 hgc1 (by omega) (by omega) (by omega) n4 n5
 clear hM1 hp1 hM3 hp3 hb13 hb2 hb3 hg2 hg3 z0 z1 hrdy hbeg l1 l2 l3 l4 l5 hh3
 go_wp2_with (go_step3)
 go_loopw [9, 27] (fun v9 v wr => ∃ (i : Nat) (vo : Value), i ≤ l.length ∧ v9 = .bool false ∧ v = .int .i64 i ∧ Cd w.heap.size wr h g gc bm cm vo (codesV s0C (l.take i)) ∧ Below w.heap.size w wr) (fun _ v _ => l.length - (intV v).toNat)
 case atStart => exact ⟨0, _, by omega, rfl, rfl, hcd, hB3⟩
 case round =>
  clear hcd hB3
  obtain ⟨i, vo, hi, rfl, rfl, hcd, hB⟩ := hrel
  rcases Nat.lt_or_ge i l.length with hlt | hge
  ·have hii : (i : Int) < (l.length : Int) := by omega
   have hin : In l[i] := hl _ (List.getElem_mem hlt)
   obtain ⟨ad, eA, y0, y1⟩ := at_T122 (Kd.C_below hr hB) (i : Int) (by omega) hii
   subst eA
   rw [codesOf_rd l i hlt, Int.toNat_natCast] at y0 y1
   have hlt' : ∀ x ∈ l.take i, In x := fun x hx => hl x (List.mem_of_mem_take hx)
   obtain ⟨k1, k2⟩ := codesV_nw hlt'
   have hk3 : (l.take i).length ≤ 65536 := by rw [List.length_take]; omega
   have hsn : codesV s0C (l.take (i + 1)) = codeV (codesV s0C (l.take i)) l[i] := by
    rw [List.take_add_one, List.getElem?_eq_getElem hlt]
    exact codesV_snoc _ _ _
   have hb6 : decide (65536 < (i : Int)) = false := decide_eq_false (by omega)
   generalize l[i] = x at *
   go_upto_region 10 with (fail)
   have hb7 : Below wr.heap.size wr (wr.alloc (.cells #[.int .i64 0, .int .i64 x] 122)) := below_alloc (Below.refl _ wr) _
   have hg7 := heap_alloc_new wr (.cells #[.int .i64 0, .int .i64 x] 122)
   generalize wr.alloc (.cells #[.int .i64 0, .int .i64 x] 122) = w7 at hb7 hg7 ⊢
   have z0 : w7.cell? ⟨wr.heap.size, 0, none⟩ = some (.int .i64 0) := (blk_cell hg7 0).trans rfl
   have z1 : w7.cell? ⟨wr.heap.size, 1, none⟩ = some (.int .i64 x) := (blk_cell hg7 1).trans rfl
   have hcode := code_calls w w7 h g gc bm cm vo _ (hcd.below hb7) k1 x hin (below_step hB hb7) (by omega)
   rw [← hsn] at hcode
   go_wp2_with (first | (go_at_call 156; refine hcode.mono ?_; rintro e w8 ⟨rfl, vo8, hcd8, hcr8⟩) | go_step3)
   go_roundw
   case rel => exact ⟨i + 1, vo8, by omega, rfl, rfl, hcd8, hcr8.b⟩
   case measure => simp [intV]; omega
  ·obtain rfl : i = l.length := by omega
   rw [List.take_length] at hcd
   obtain ⟨k1, k2⟩ := codesV_nw hl
   go_wp2_with (go_step3)
   go_loopw [9, 45] (fun v9 v wq => ∃ (i : Nat), i ≤ l.length ∧ v9 = .bool false ∧ v = .int .i64 i ∧ Cd w.heap.size wq h g gc bm cm vo (codesV s0C l) ∧ Below w.heap.size w wq) (fun _ v _ => l.length - (intV v).toNat)
   case atStart => exact ⟨0, by omega, rfl, rfl, hcd, hB⟩
   case round =>
    clear hcd hB
    obtain ⟨i, hi, rfl, rfl, hcd, hB⟩ := hrel
    rcases Nat.lt_or_ge i l.length with hlt | hge
    ·have hii : (i : Int) < (l.length : Int) := by omega
     have hin : In l[i] := hl _ (List.getElem_mem hlt)
     obtain ⟨ad, eA, y0, y1⟩ := at_T122 (Kd.C_below hr hB) (i : Int) (by omega) hii
     subst eA
     rw [codesOf_rd l i hlt, Int.toNat_natCast] at y0 y1
     generalize l[i] = x at *
     go_upto_region 17 with (fail)
     have hb7 : Below wr.heap.size wr (wr.alloc (.cells #[.int .i64 0, .int .i64 x] 122)) := below_alloc (Below.refl _ wr) _
     have hg7 := heap_alloc_new wr (.cells #[.int .i64 0, .int .i64 x] 122)
     generalize wr.alloc (.cells #[.int .i64 0, .int .i64 x] 122) = w7 at hb7 hg7 ⊢
     have z0 : w7.cell? ⟨wr.heap.size, 0, none⟩ = some (.int .i64 0) := (blk_cell hg7 0).trans rfl
     have z1 : w7.cell? ⟨wr.heap.size, 1, none⟩ = some (.int .i64 x) := (blk_cell hg7 1).trans rfl
     have hb8 := (below_step hB hb7).cell (World.block_lt_of_cell? w _ hb)
     have hkn := known1_calls w7 b x hin (hb8.trans hb)
     clear y0 y1
     go_wp2_with (first | (go_at_call 165; refine hkn.mono ?_; rintro e w8 ⟨rfl, hb9⟩) | go_step3)
     go_roundw
     case rel => exact ⟨i + 1, by omega, rfl, rfl, (hcd.below hb7).below hb9, below_step (below_step hB hb7) hb9⟩
     case measure => simp [intV]; omega
    ·obtain rfl : i = l.length := by omega
     have hb6 : decide (65536 < (l.length : Int)) = false := decide_eq_false (by omega)
     have hend := end_calls w wr h g gc bm cm vo _ hcd k1 hB (by omega)
     go_wp2_with (first | (go_at_call 158; refine hend.mono ?_; rintro e w9 ⟨vo9, rfl, hR9, hr9⟩) | go_step3)
     first | rw [Exit.noGoto_ret] | skip
     go_ret2
     exact ⟨vo9, rfl, Kd.R_mono hR9 (fun _ _ => trivial), hr9.b⟩

theorem codesOf_snoc (l : List Int) (i : Nat) (h : i < l.length) : codesOf (l.take (i + 1)) = codesOf (l.take i) ++ [⟨0, l[i]⟩] := by
 unfold codesOf
 rw [List.take_add_one, List.getElem?_eq_getElem h, List.map_append]
 rfl
theorem pack_calls (w : World) (A : Option Addr) (c : Nat) (l : List Int) (hl : ∀ x ∈ l, In x) (hn : l.length ≤ 65536) (hr : Kd.C (Kd.int .u8) w A l.length l) :
  Calls Tryz.prog 55 #[.slice A l.length c] w fun e w' => ∃ vo, e = .returned (.tuple #[vo, .int .i64 0]) ∧ Kd.R (Kd.int .u8) 5 w' w.heap.size (fun _ => True) vo (encV l) ∧ Below w.heap.size w w' := by
 have hu2 := Tryz.underlying122
 go_enter Tryz.func55, Tryz.ntmps55
 go_wp2
 go_loopw [4, 9] (fun v4 v wr => ∃ (i : Nat), i ≤ l.length ∧ v = .int .i64 i ∧ Kd.R k122 122 wr w.heap.size (fun _ => True) v4 (codesOf (l.take i)) ∧ Below w.heap.size w wr) (fun _ v _ => l.length - (intV v).toNat)
 case atStart => exact ⟨0, by omega, rfl, Kd.R_nil _ _ _ _ _, Below.refl _ w⟩
 case round =>
  obtain ⟨i, hi, rfl, hR, hB⟩ := hrel
  rcases Nat.lt_or_ge i l.length with hlt | hge
  ·have hii : (i : Int) < (l.length : Int) := by omega
   have hin : In l[i] := hl _ (List.getElem_mem hlt)
   obtain ⟨ad, eA, y0⟩ := Kd.at_int (Kd.C_below hr hB) (i : Int) (by omega) hii
   subst eA
   have hrd : rd l (i : Int) = l[i] := by simp [rd, List.getD, List.getElem?_eq_getElem hlt]
   rw [hrd, Int.toNat_natCast] at y0
   have hsn := codesOf_snoc l i hlt
   have hln : (codesOf (l.take i)).length = i := by rw [codesOf_len, List.length_take]; omega
   have hlk : ((codesOf (l.take i)).length + 1) * 16 ≤ 140737488355328 := by rw [hln]; omega
   generalize l[i] = x at *
   obtain ⟨hx0, hx1⟩ := hin
   have HSN := Aside0.mk hsn
   clear hsn hrd
   go_wp2_with (first | ((with_reducible refine gate_builtin (b := .append) (xs := #[.tmp 13, .tmp 17]) rfl ?_); at_builtin; refine Kd.R_append k122 (w0 := w) w.heap.size rfl (.tmp 13) (.tmp 17) 118 122 (.agg #[(.int .i64 0), (.int .i64 0)]) 16 rfl Tryz.underlying118 info122 rfl (by decide) (by omega) _ (codesOf (l.take i)) ⟨0, x⟩ [.int .i64 0, .int .i64 x] (fun _ => True) (fun _ => False) rfl rfl ?aP (fun _ hk => hk.elim) ?aF ?aO ?aB ?aS ?aL ?_; (case aP => exact k122_mkM _ _ _ ⟨0, x⟩); (case aF => exact fun _ _ => trivial); (case aO => exact hR); (case aB => exact hB); (case aS => exact hB.size); (case aL => exact hlk); intro v3 w3 hR3 hb3 hg3 hat3; rw [← HSN.out] at hR3))
   go_roundw
   case rel => exact ⟨i + 1, by omega, rfl, hR3, hb3⟩
   case measure => simp [intV]; omega
  ·obtain rfl : i = l.length := by omega
   rw [List.take_length] at hR
   obtain ⟨A1, c1, e1⟩ := Kd.R_slice hR
   subst e1
   have hC := (Kd.R_reads' hR).2.2
   rw [codesOf_len] at hC
   have hb7 : Below wr.heap.size wr (wr.alloc (.cells #[.int .i64 256] 3)) := below_alloc (Below.refl _ wr) _
   have hg7 := heap_alloc_new wr (.cells #[.int .i64 256] 3)
   have henc := encode_calls _ wr.heap.size A1 c1 l hl hn ((blk_cell hg7 0).trans rfl) (Kd.C_below hC hb7)
   rw [codesOf_len]
   go_wp2_with (go_at_call 109; refine henc.mono ?_; rintro e w9 ⟨vo9, rfl, hR9, hr9⟩)
   go_ret2
   exact ⟨vo9, rfl, Kd.R_lower hR9 (below_step hB hb7).size, below_step (below_step hB hb7) hr9⟩

def rc (B : Option Addr) (n bc at_ : Nat) (code : Int) : Array Value := #[.slice B n bc, .int .i64 (at_ : Int), .int .u32 code]
theorem or8 {x c : Int} (h : x % 256 = 0) (h0 : 0 ≤ x) (h1 : x < 4294967296) (c0 : 0 ≤ c) (c1 : c ≤ 255) : Go.bits .or .u32 x c = x + c := by
 rw [u32_or x c h0 h1 c0 (by omega), nat_join 8 x.toNat c.toNat (by omega) (by omega)]
 omega
theorem next_calls (w0 w : World) (hr : Nat) (B : Option Addr) (bc at_ : Nat) (code : Int) (b : List Int) (hh : w.heap[hr]? = some (.cells (rc B b.length bc at_ code) 233 (0, 0))) (hb : Kd.C (Kd.int .u8) w B b.length b) (hd : Dg b) (h0 : 0 ≤ code) (h1 : code < 4294967296) (ha : at_ ≤ 1099511627776) (hg : w0.heap.size ≤ hr) (hB : Below w0.heap.size w0 w) :
  Calls Tryz.prog 151 #[.pointer (some ⟨hr, 0, none⟩)] w fun e w' => e = .returned (.tuple #[]) ∧ w'.heap[hr]? = some (.cells (rc B b.length bc (nextV b (code, at_)).2 (nextV b (code, at_)).1) 233 (0, 0)) ∧ Below w0.heap.size w0 w' ∧ Kept w w' (fun k => k = hr) := by
 have hu := Tryz.underlying233
 have x0 : w.cell? ⟨hr, 0, none⟩ = some (.slice B b.length bc) := (blk_cell hh 0).trans rfl
 have x1 : w.cell? ⟨hr, 1, none⟩ = some (.int .i64 (at_ : Int)) := (blk_cell hh 1).trans rfl
 have x2 : w.cell? ⟨hr, 2, none⟩ = some (.int .u32 code) := (blk_cell hh 2).trans rfl
 have f1 := blk_frozen hh 1
 have f2 := blk_frozen hh 2
 have hw : IntKind.u32.wrap (code * 256) = code * 256 % 4294967296 := IntKind.wrap_u32 _
 by_cases hlt : at_ < b.length
 ·have hii : (at_ : Int) < (b.length : Int) := by omega
  have hib : decide ((at_ : Int) < (b.length : Int)) = true := decide_eq_true hii
  obtain ⟨ad, eA, y0⟩ := Kd.at_int hb (at_ : Int) (by omega) hii
  subst eA
  have hrd : rd b (at_ : Int) = b.getD at_ 0 := by simp [rd]
  have hdd := getD_dg hd at_
  rw [hrd, Int.toNat_natCast] at y0
  have hnv : nextV b (code, at_) = (code * 256 % 4294967296 + b.getD at_ 0, at_ + 1) := rfl
  rw [hnv]
  generalize b.getD at_ 0 = d at *
  go_enter Tryz.func151, Tryz.ntmps151
  go_wp2
  repeat (go_quiet (fail); try go_wp2)
  go_returns
  rw [or8 (by omega) (by omega) (by omega) hdd.1 hdd.2]
  refine ⟨rfl, blk_put (blk_put (blk_drewN hh _) 2 _ rfl) 1 _ rfl, below_set (below_set (pw_below_drewN hB _) hg) hg, (((Kept.refl w (fun k => k = hr)).drewN _).setCell (p := ⟨hr, 2, none⟩) (.inl rfl) _).setCell (p := ⟨hr, 1, none⟩) (.inl rfl) _⟩
 ·have hib : decide ((at_ : Int) < (b.length : Int)) = false := decide_eq_false (by omega)
  have hz : b.getD at_ 0 = 0 := by simp [List.getD, List.getElem?_eq_none (Nat.le_of_not_lt hlt)]
  have hnv : nextV b (code, at_) = (code * 256 % 4294967296 + 0, at_ + 1) := by unfold nextV; rw [hz]
  rw [hnv]
  go_enter Tryz.func151, Tryz.ntmps151
  go_wp2
  repeat (go_quiet (fail); try go_wp2)
  go_returns
  rw [or8 (c := 0) (by omega) (by omega) (by omega) (by omega) (by omega)]
  refine ⟨rfl, blk_put (blk_put (blk_drewN hh _) 2 _ rfl) 1 _ rfl, below_set (below_set (pw_below_drewN hB _) hg) hg, (((Kept.refl w (fun k => k = hr)).drewN _).setCell (p := ⟨hr, 2, none⟩) (.inl rfl) _).setCell (p := ⟨hr, 1, none⟩) (.inl rfl) _⟩
theorem eq_from {xs ys : List Int} (hl : xs.length = ys.length) (i : Nat) (hi : i < xs.length) : xs.drop i = ys.drop i ↔ (rd xs (i : Int) = rd ys (i : Int) ∧ xs.drop (i + 1) = ys.drop (i + 1)) := by
 have e1 : rd xs (i : Int) = xs[i] := by simp [rd, List.getD, List.getElem?_eq_getElem hi]
 have e2 : rd ys (i : Int) = ys[i]'(by omega) := by simp [rd, List.getD, List.getElem?_eq_getElem (show i < ys.length by omega)]
 rw [e1, e2, List.drop_eq_getElem_cons hi, List.drop_eq_getElem_cons (show i < ys.length by omega)]
 exact ⟨fun h => by injection h with a b; exact ⟨a, b⟩, fun h => by rw [h.1, h.2]⟩
theorem equal_calls (w : World) (A B : Option Addr) (ca cb : Nat) (xs ys : List Int) (hx : Kd.C (Kd.int .u8) w A xs.length xs) (hy : Kd.C (Kd.int .u8) w B ys.length ys) (hl1 : xs.length ≤ 1099511627776) :
  Calls Tryz.prog 157 #[.slice A xs.length ca, .slice B ys.length cb] w fun e w' => e = .returned (.bool (decide (xs = ys))) ∧ Below w.heap.size w w' := by
 by_cases hne : xs.length = ys.length
 ·have hb0 : ((xs.length : Int) != (ys.length : Int)) = false := by rw [hne]; simp
  have he0 : decide (xs = ys) = decide (xs.drop 0 = ys.drop 0) := by simp
  rw [he0]
  clear he0
  go_enter Tryz.func157, Tryz.ntmps157
  go_wp2
  go_loopw [13] (fun v wr => ∃ i : Nat, i ≤ xs.length ∧ v = .int .i64 i ∧ Aside0 ((xs.drop 0 = ys.drop 0) ↔ (xs.drop i = ys.drop i)) ∧ Below w.heap.size w wr) (fun v _ => xs.length - (intV v).toNat)
  case atStart => exact ⟨0, by omega, rfl, ⟨Iff.rfl⟩, Below.refl _ w⟩
  case round =>
   obtain ⟨i, hi, rfl, HI, hB⟩ := hrel
   rcases Nat.lt_or_ge i xs.length with hlt | hge
   ·have hii : (i : Int) < (xs.length : Int) := by omega
    have hij : (i : Int) < (ys.length : Int) := by omega
    obtain ⟨ad, eA, y0⟩ := Kd.at_int (Kd.C_below hx hB) (i : Int) (by omega) hii
    subst eA
    obtain ⟨bd, eB, y1⟩ := Kd.at_int (Kd.C_below hy hB) (i : Int) (by omega) hij
    subst eB
    have HF := Aside0.mk (eq_from hne i hlt)
    rw [Int.toNat_natCast] at y0 y1
    generalize rd xs (i : Int) = x at *
    generalize rd ys (i : Int) = y at *
    by_cases hxy : x = y
    ·have hbn : (x != y) = false := by rw [hxy]; simp
     go_wp2
     repeat (go_quiet (fail); try go_wp2)
     go_roundw
     case rel => exact ⟨i + 1, by omega, rfl, ⟨HI.out.trans (HF.out.trans ⟨fun h => h.2, fun h => ⟨hxy, h⟩⟩)⟩, by first | exact pw_below_drewN (pw_below_drewN hB _) _ | exact pw_below_drewN hB _⟩
     case measure => simp [intV]; omega
    ·have hbn : (x != y) = true := by simp [hxy]
     go_wp2
     repeat (go_quiet (fail); try go_wp2)
     go_returns
     refine ⟨?_, by first | exact pw_below_drewN (pw_below_drewN hB _) _ | exact pw_below_drewN hB _⟩
     rw [decide_eq_false (fun h => hxy ((HF.out.1 (HI.out.1 h)).1))]
     rfl
   ·obtain rfl : i = xs.length := by omega
    go_wp2
    go_returns
    refine ⟨?_, hB⟩
    rw [decide_eq_true (HI.out.2 (by rw [List.drop_of_length_le (Nat.le_refl _), List.drop_of_length_le (by omega)]))]
    rfl
 ·have hb0 : ((xs.length : Int) != (ys.length : Int)) = true := by simp; omega
  rw [decide_eq_false (fun h => hne (by rw [h]))]
  go_enter Tryz.func157, Tryz.ntmps157
  go_wp2
  go_returns
  exact ⟨rfl, Below.refl _ w⟩
end Go.Proofs.YtbdbobjdlomjnaaGreatDoor.Ec
