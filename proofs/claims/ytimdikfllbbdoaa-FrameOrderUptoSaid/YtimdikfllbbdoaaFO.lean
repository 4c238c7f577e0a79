/- Sections are written just if their kinds rise: the walk over the law. No condition. -/
import Derived.Test.YtimdikfllbbdoaaPx12
import Derived.Test.YtimdikfllbbdoaaPx18
import Derived.Test.YtimdikfllbbdoaaPx32
import Derived.Test.YtimdikfllbbdoaaPx19
import Derived.Test.YtimdikfllbbdoaaFB
namespace Go.Proofs.Ytimdikfllbbdoaa.Fv
set_option linter.unusedVariables false
set_option linter.unusedSimpArgs false
open Go Go.RowKit Go.Proofs.Ytimdikfllbbdoaa.P Go.Proofs.Ytimdikfllbbdoaa.C Go.Proofs.YtimdikfllbbdoaaW.PrintWords Go.Proofs.YtimdikfllbbdoaaW.PrintLast Go.Proofs.YtimdikfllbbdoaaW.PrintMore

theorem C_secs (w : World) (g : Nat) (A B : Option Addr) (ca cb : Nat) (k q : Int) (xs ys : List Int) (cs : Array Value) (fr : Nat × Nat) (hg : w.heap[g]? = some (.cells cs 33 fr)) (hc : cs = #[.int .i64 k, .slice A xs.length ca, .int .i64 q, .slice B ys.length cb])
    (ha : Kd.C (Kd.int .u8) w A xs.length xs) (hb : Kd.C (Kd.int .u8) w B ys.length ys) (hca : xs.length ≤ ca) (hcb : ys.length ≤ cb) : Kd.C k33 w (some ⟨g, 0, none⟩) 2 [(⟨k, xs⟩ : S33), ⟨q, ys⟩] := by
  refine ⟨rfl, by simp, fun _ => ⟨⟨g, 0, none⟩, rfl, fun j p hp => ?_⟩⟩
  have e : ∀ j i, (Addr.add ⟨g, 0, none⟩ (j * k33.sz + i)) = ⟨g, j * 2 + i, none⟩ := by
    intro j i
    have : k33.sz = 2 := rfl
    rw [this, Addr.add_mid]; simp
  match j, hp with
  | 0, hp =>
    obtain rfl : (⟨k, xs⟩ : S33) = p := by simpa using hp
    refine ⟨[.int .i64 k, .slice A xs.length ca], rfl, ⟨[.int .i64 k], [.slice A xs.length ca], rfl, rfl, ⟨A, ca, rfl, hca, ha⟩⟩, fun i u hu => ?_⟩
    rw [e, cell_of_row w g _ cs 33 fr hg, hc]
    match i, hu with
    | 0, hu => exact hu
    | 1, hu => exact hu
    | i + 2, hu => simp at hu
  | 1, hp =>
    obtain rfl : (⟨q, ys⟩ : S33) = p := by simpa using hp
    refine ⟨[.int .i64 q, .slice B ys.length cb], rfl, ⟨[.int .i64 q], [.slice B ys.length cb], rfl, rfl, ⟨B, cb, rfl, hcb, hb⟩⟩, fun i u hu => ?_⟩
    rw [e, cell_of_row w g _ cs 33 fr hg, hc]
    match i, hu with
    | 0, hu => exact hu
    | 1, hu => exact hu
    | i + 2, hu => simp at hu
  | j + 2, hp => simp at hp
theorem put2 {w : World} {g : Nat} {a b c d : Value} (h : w.heap[g]? = some (.cells #[a, b] 33 (0, 0))) : ((w.setCell ⟨g, 0, none⟩ c).setCell ⟨g, 1, none⟩ d).heap[g]? = some (.cells #[c, d] 33 (0, 0)) := by
  have h1 := blk_set h 0 c
  have h2 := blk_set h1 1 d
  simpa using h2
theorem put2_below {w0 w : World} {g : Nat} {c d : Value} (h : Below w0.heap.size w0 w) (hg : w0.heap.size ≤ g) : Below w0.heap.size w0 ((w.setCell ⟨g, 0, none⟩ c).setCell ⟨g, 1, none⟩ d) := below_set (below_set h hg) hg

theorem encB_wf (l : List S33) (ho : okL 0 l = true) (hw : ∀ s ∈ l, wfS s) : ∀ c ∈ encB l, 0 ≤ c ∧ c ≤ 255 := by
  have hbw : ∀ l : List S33, (∀ s ∈ l, wfS s) → ∀ q, okL q l = true → ∀ c ∈ bodyL l, 0 ≤ c ∧ c ≤ 255 := by
    intro l
    induction l with
    | nil => intro _ _ _ c hc; simp [bodyL] at hc
    | cons s l ih =>
      intro hw q ho c hc
      simp only [okL, Bool.and_eq_true, decide_eq_true_eq] at ho
      have hs := hw s (List.mem_cons_self)
      rw [bodyL] at hc
      rcases List.mem_append.1 hc with hc | hc
      · unfold secB at hc
        rcases List.mem_append.1 hc with hc | hc
        · exact pre_wf s.f0 s.f1 (by omega) hs.1 (by have := hs.2; omega) c hc
        · exact bytes4_wf _ c hc
      · exact ih (fun x hx => hw x (List.mem_cons_of_mem _ hx)) _ ho.2 c hc
  have hd : ∀ c ∈ hdB, 0 ≤ c ∧ c ≤ 255 := by decide
  intro c hc
  unfold encB at hc
  rcases List.mem_append.1 hc with hc | hc
  · rcases List.mem_append.1 hc with hc | hc
    · exact hd c hc
    · exact hbw l hw 0 ho c hc
  · simp at hc
    omega
theorem lt_of_some' {w : World} {B : Nat} {o : Obj} (h : w.heap[B]? = some o) : B < w.heap.size := (Array.getElem?_eq_some_iff.1 h).1
set_option maxHeartbeats 8000000 in
set_option maxRecDepth 100000 in
theorem order_calls (A2 A3 : Option Addr) (c2 c3 : Nat) (a b : Int) (x y : List Int) (w : World) (hr2 : Kd.C (Kd.int .u8) w A2 x.length x) (hc2 : x.length ≤ c2) (hr3 : Kd.C (Kd.int .u8) w A3 y.length y) (hc3 : y.length ≤ c3)
    (hx : ∀ c ∈ x, 0 ≤ c ∧ c ≤ 255) (hy : ∀ c ∈ y, 0 ≤ c ∧ c ≤ 255) (hl : x.length + y.length ≤ 4611686018427387904) (ha : 0 ≤ a ∧ a ≤ 255) (hb : 0 ≤ b ∧ b ≤ 255) :
    Calls Try.prog 7 #[.int .u8 a, .int .u8 b, .slice A2 x.length c2, .slice A3 y.length c3] w fun e w' => e = .returned (.bool true) ∧ Below w.heap.size w w' := by
  have hu33 := Try.underlying33
  obtain ⟨K, hK⟩ := known_ev
  have hkn : ∀ k, K ≤ k → ∀ W : World, Calls Try.prog 9 #[] W fun e w' => e = .returned (.bool true) ∧ Below W.heap.size W w' := fun k hk W => lapidarylaw03_known.calls k true W (hK k hk)
  have hkn := hkn K (Nat.le_refl _)
  have hwl : wrap64 ((x.length : Int) + (y.length : Int)) = (x.length : Int) + (y.length : Int) := w64 (by omega) (by omega)
  by_cases hlong : (x.length : Int) + (y.length : Int) > 1000
  · go_enter Try.func7, Try.ntmps7
    go_wp2_with (go_at_call 9; refine (hkn _).mono ?_; rintro e w2 ⟨rfl, hb2⟩)
    go_ret
    exact ⟨rfl, hb2⟩
  · go_enter Try.func7, Try.ntmps7
    have hkp : 0 ≤ a % 12 ∧ a % 12 ≤ 11 := by omega
    have hkq : 0 ≤ b % 12 ∧ b % 12 ≤ 11 := by omega
    go_upto_region 4 with ((with_reducible refine gate_dst (N := 9) rfl ?_); refine box_event ?hg (N := 9) ?hd (cs := #[.int .i64 0, .slice none 0 0]) (t := 33) ?hr ?_; (case hd => rfl); (case hg => rfl); (case hr => first | (go_simp; done) | (go_simp; rfl)); intro g1 hg w1 hbox1 hbw; have hge1 : w.heap.size ≤ g1 := Nat.le_of_eq hg.symm; clear hg; have hcz0 : w1.cell? ⟨g1, 0, none⟩ = some (.int .i64 0) := (blk_cell hbox1 0).trans rfl; have hcz1 : w1.cell? ⟨g1, 1, none⟩ = some (.slice none 0 0) := (blk_cell hbox1 1).trans rfl; have hfz0 := blk_frozen hbox1 0; have hfz1 := blk_frozen hbox1 1)
    clear hcz0 hcz1 hfz0 hfz1
    have hH1 := put2 (c := .int .i64 (a % 12)) (d := .slice A2 x.length c2) hbox1
    have hB1 := put2_below (c := .int .i64 (a % 12)) (d := .slice A2 x.length c2) hbw hge1
    clear hbox1 hbw
    generalize (w1.setCell ⟨g1, 0, none⟩ (.int .i64 (a % 12))).setCell ⟨g1, 1, none⟩ (.slice A2 x.length c2) = v1 at hH1 hB1 ⊢
    go_upto_region 5 with ((with_reducible refine gate_dst (N := 10) rfl ?_); refine box_event ?hg (N := 10) ?hd (cs := #[.int .i64 0, .slice none 0 0]) (t := 33) ?hr ?_; (case hd => rfl); (case hg => rfl); (case hr => first | (go_simp; done) | (go_simp; rfl)); intro g2 hg w2 hbox2 hbw; have hge2 : v1.heap.size ≤ g2 := Nat.le_of_eq hg.symm; clear hg; have hcz0 : w2.cell? ⟨g2, 0, none⟩ = some (.int .i64 0) := (blk_cell hbox2 0).trans rfl; have hcz1 : w2.cell? ⟨g2, 1, none⟩ = some (.slice none 0 0) := (blk_cell hbox2 1).trans rfl; have hfz0 := blk_frozen hbox2 0; have hfz1 := blk_frozen hbox2 1)
    clear hcz0 hcz1 hfz0 hfz1
    have hne : g1 ≠ g2 := by have := lt_of_some' hH1; omega
    have hH2 := put2 (c := .int .i64 (b % 12)) (d := .slice A3 y.length c3) hbox2
    have hB2 := put2_below (c := .int .i64 (b % 12)) (d := .slice A3 y.length c3) hbw hge2
    have hH1' : ((w2.setCell ⟨g2, 0, none⟩ (.int .i64 (b % 12))).setCell ⟨g2, 1, none⟩ (.slice A3 y.length c3)).heap[g1]? = _ := blk_below hH1 hB2
    have hB2' := below_step hB1 hB2
    clear hbox2 hbw hH1 hB1 hB2
    generalize (w2.setCell ⟨g2, 0, none⟩ (.int .i64 (b % 12))).setCell ⟨g2, 1, none⟩ (.slice A3 y.length c3) = v2 at hH1' hH2 hB2' ⊢
    have c10 : v2.cell? ⟨g1, 0, none⟩ = some (.int .i64 (a % 12)) := (blk_cell hH1' 0).trans rfl
    have c11 : v2.cell? ⟨g1, 1, none⟩ = some (.slice A2 x.length c2) := (blk_cell hH1' 1).trans rfl
    have c20 : v2.cell? ⟨g2, 0, none⟩ = some (.int .i64 (b % 12)) := (blk_cell hH2 0).trans rfl
    have c21 : v2.cell? ⟨g2, 1, none⟩ = some (.slice A3 y.length c3) := (blk_cell hH2 1).trans rfl
    generalize a % 12 = kp at *
    generalize b % 12 = kq at *
    have hK1 : Kd.C k33 (v2.alloc (.cells #[.int .i64 kp, .slice A2 x.length c2, .int .i64 kq, .slice A3 y.length c3] 33)) (some ⟨v2.heap.size, 0, none⟩) 2 [(⟨kp, x⟩ : S33), ⟨kq, y⟩] :=
      C_secs _ _ A2 A3 c2 c3 kp kq x y _ (0, 0) (heap_alloc_new _ _) rfl (Kd.C_below hr2 (hB2'.alloc hB2'.size _)) (Kd.C_below hr3 (hB2'.alloc hB2'.size _)) hc2 hc3
    have hwf : ∀ s ∈ [(⟨kp, x⟩ : S33), ⟨kq, y⟩], wfS s := by
      intro s hs
      simp at hs
      rcases hs with rfl | rfl
      · exact ⟨hx, by show x.length ≤ 1900; omega⟩
      · exact ⟨hy, by show y.length ≤ 1900; omega⟩
    obtain ⟨k1, hk1⟩ := enc_ev [(⟨kp, x⟩ : S33), ⟨kq, y⟩] hwf (by simp only [szL]; omega)
    have hk1 := hk1 k1 (Nat.le_refl _)
    have henc := fun (r1 : List Int) (r2 : Int) (h : encV [(⟨kp, x⟩ : S33), ⟨kq, y⟩] = (r1, r2)) => frame_Encode.calls k1 (some ⟨v2.heap.size, 0, none⟩) 2 [(⟨kp, x⟩ : S33), ⟨kq, y⟩] r1 r2 _ hK1 (Nat.le_refl _) (hk1.trans (congrArg some h))
    clear hk1 hK1
    have hcells : ∀ W : World, Below v2.heap.size v2 W → W.cell? ⟨g1, 0, none⟩ = some (.int .i64 kp) ∧ W.cell? ⟨g1, 1, none⟩ = some (.slice A2 x.length c2) ∧ W.cell? ⟨g2, 0, none⟩ = some (.int .i64 kq) ∧ W.cell? ⟨g2, 1, none⟩ = some (.slice A3 y.length c3) := fun W hW =>
      ⟨(hW.cell (World.block_lt_of_cell? v2 _ c10)).trans c10, (hW.cell (World.block_lt_of_cell? v2 _ c11)).trans c11, (hW.cell (World.block_lt_of_cell? v2 _ c20)).trans c20, (hW.cell (World.block_lt_of_cell? v2 _ c21)).trans c21⟩
    have hv2 : Below v2.heap.size v2 (v2.alloc (.cells #[.int .i64 kp, .slice A2 x.length c2, .int .i64 kq, .slice A3 y.length c3] 33)) := (Below.refl _ v2).alloc (Nat.le_refl _) _
    by_cases hright : 1 ≤ kp ∧ kp < kq ∧ kq ≤ 9
    · obtain ⟨h1, h2, h3⟩ := hright
      have hok : okL 0 [(⟨kp, x⟩ : S33), ⟨kq, y⟩] = true := by
        simp only [okL, Bool.and_true, Bool.and_eq_true, decide_eq_true_eq]
        omega
      have he : encV [(⟨kp, x⟩ : S33), ⟨kq, y⟩] = (encB [(⟨kp, x⟩ : S33), ⟨kq, y⟩], 0) := by unfold encV; rw [hok]; rfl
      have henc := henc _ _ he
      have hde := dec_enc _ hok hwf
      have hxw : ∀ c ∈ encB [(⟨kp, x⟩ : S33), ⟨kq, y⟩], 0 ≤ c ∧ c ≤ 255 := encB_wf _ hok hwf
      have hxl : (encB [(⟨kp, x⟩ : S33), ⟨kq, y⟩]).length ≤ 100000 := by
        have hb2 := body_len [(⟨kp, x⟩ : S33), ⟨kq, y⟩]
        simp only [szL] at hb2
        unfold encB
        rw [List.length_append, List.length_append, hdB_len, one_len]
        omega
      obtain ⟨k2, hk2⟩ := dec_ev _ hxw (by omega)
      have hk2 := hk2 k2 (Nat.le_refl _)
      rw [hde] at hk2
      obtain ⟨k3, hk3⟩ := rsame_self [(⟨kp, x⟩ : S33), ⟨kq, y⟩] (by show 2 ≤ _; omega)
      have hk3 := hk3 k3 (Nat.le_refl _)
      generalize encB [(⟨kp, x⟩ : S33), ⟨kq, y⟩] = s at *
      go_upto_region 6 with (go_at_call 10; refine henc.mono ?_; rintro e w3 ⟨v3, rfl, ho3, hb3⟩; have hv3 := below_step hv2 hb3; clear hb3)
      obtain ⟨A4, c4, e4⟩ := Kd.R_slice ho3
      subst e4
      obtain ⟨d10, d11, d20, d21⟩ := hcells w3 hv3
      have hs3 := Kd.R_reads' ho3
      have hdec := frame_Decode.calls k2 A4 c4 s _ _ w3 hs3.2.2 hs3.2.1 hk2
      go_upto_region 12 with (go_at_call 15; refine hdec.mono ?_; rintro e w5 ⟨v5, rfl, ho5, hb5⟩; have hv5 := below_step hv3 hb5; clear hb5)
      obtain ⟨A6, c6, e6⟩ := Kd.S_slice ho5
      subst e6
      have hs5 := Kd.R_reads' (Kd.S_R ho5)
      clear d10 d11 d20 d21
      obtain ⟨d10, d11, d20, d21⟩ := hcells w5 hv5
      have hB5 := below_step hB2' hv5
      have hK5 : Kd.C k33 (w5.alloc (.cells #[.int .i64 kp, .slice A2 x.length c2, .int .i64 kq, .slice A3 y.length c3] 33)) (some ⟨w5.heap.size, 0, none⟩) 2 [(⟨kp, x⟩ : S33), ⟨kq, y⟩] :=
        C_secs _ _ A2 A3 c2 c3 kp kq x y _ (0, 0) (heap_alloc_new _ _) rfl (Kd.C_below hr2 (hB5.alloc hB5.size _)) (Kd.C_below hr3 (hB5.alloc hB5.size _)) hc2 hc3
      have hsm := lapidaryref03_Same.calls k3 A6 c6 [(⟨kp, x⟩ : S33), ⟨kq, y⟩] (some ⟨w5.heap.size, 0, none⟩) 2 [(⟨kp, x⟩ : S33), ⟨kq, y⟩] true _ (Kd.C_below hs5.2.2 ((Below.refl _ w5).alloc (Nat.le_refl _) _)) hs5.2.1 hK5 (Nat.le_refl _) hk3
      have hB6 := hB5.alloc hB5.size (.cells #[.int .i64 kp, .slice A2 x.length c2, .int .i64 kq, .slice A3 y.length c3] 33)
      go_wp2_with (first | (go_at_call 17; refine hsm.mono ?_; rintro e w6 ⟨rfl, ⟨nd, rfl⟩⟩; have hB7 := pw_below_drewN hB6 nd) | (go_at_call 9; refine (hkn _).mono ?_; rintro e w7 ⟨rfl, hb7⟩))
      go_ret
      exact ⟨rfl, below_step hB7 hb7⟩
    · have hok : okL 0 [(⟨kp, x⟩ : S33), ⟨kq, y⟩] = false := by
        simp only [okL, Bool.and_true, Bool.and_eq_false_iff, decide_eq_false_iff_not]
        omega
      have he : encV [(⟨kp, x⟩ : S33), ⟨kq, y⟩] = ([], 2) := by unfold encV; rw [hok]; rfl
      have henc := henc _ _ he
      have key : ∀ (P : Prop), (¬ (1 ≤ kp) → P) → (1 ≤ kp → ¬ (kp < kq) → P) → (1 ≤ kp → kp < kq → ¬ (kq ≤ 9) → P) → P := by
        intro P f1 f2 f3
        by_cases h1 : 1 ≤ kp
        · by_cases h2 : kp < kq
          · exact f3 h1 h2 (fun h3 => hright ⟨h1, h2, h3⟩)
          · exact f2 h1 h2
        · exact f1 h1
      go_upto_region 6 with (go_at_call 10; refine henc.mono ?_; rintro e w3 ⟨v3, rfl, ho3, hb3⟩; have hv3 := below_step hv2 hb3; clear hb3)
      obtain ⟨A4, c4, e4⟩ := Kd.R_slice ho3
      rw [List.length_nil] at e4
      subst e4
      obtain ⟨d10, d11, d20, d21⟩ := hcells w3 hv3
      have hB3 := below_step hB2' hv3
      refine key _ (fun h1 => ?_) (fun h1 h2 => ?_) (fun h1 h2 h3 => ?_)
      · have b1 : decide (1 ≤ kp) = false := decide_eq_false (by omega)
        go_wp2_with (go_at_call 9; refine (hkn _).mono ?_; rintro e w7 ⟨rfl, hb7⟩)
        go_ret
        exact ⟨rfl, below_step hB3 hb7⟩
      · have b1 : decide (1 ≤ kp) = true := decide_eq_true h1
        have b2 : decide (kp < kq) = false := decide_eq_false (by omega)
        go_wp2_with (go_at_call 9; refine (hkn _).mono ?_; rintro e w7 ⟨rfl, hb7⟩)
        go_ret
        exact ⟨rfl, below_step hB3 hb7⟩
      · have b1 : decide (1 ≤ kp) = true := decide_eq_true h1
        have b2 : decide (kp < kq) = true := decide_eq_true h2
        have b3 : decide (kq ≤ 9) = false := decide_eq_false (by omega)
        go_wp2_with (go_at_call 9; refine (hkn _).mono ?_; rintro e w7 ⟨rfl, hb7⟩)
        go_ret
        exact ⟨rfl, below_step hB3 hb7⟩
end Go.Proofs.Ytimdikfllbbdoaa.Fv
