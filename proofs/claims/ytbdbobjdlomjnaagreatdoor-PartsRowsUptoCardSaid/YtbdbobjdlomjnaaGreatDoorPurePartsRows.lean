/- Any rows are wrapped, and any bytes unwrapped, and split, as the document says, and what is wrapped is split into the same rows, where the arguments are of bulk at most 1048576. No condition. -/
import Derived.Test.YtbdbobjdlomjnaaGreatDoorStPartsRows
import Derived.Test.YtbdbobjdlomjnaaGreatDoorZ26
namespace Go.Proofs.YtbdbobjdlomjnaaGreatDoor.Pure
set_option linter.unusedVariables false
set_option linter.unusedSimpArgs false
open Go Go.RowKit Go.Proofs.YtbdbobjdlomjnaaGreatDoor.P Go.Proofs.YtbdbobjdlomjnaaGreatDoor.C Go.Proofs.YtbdbobjdlomjnaaGreatDoor.Fv Go.Proofs.YtbdbobjdlomjnaaGreatDoor.Ec Go.Proofs.YtbdbobjdlomjnaaGreatDoorW.PrintWords Go.Proofs.YtbdbobjdlomjnaaGreatDoorW.PrintLast Go.Proofs.YtbdbobjdlomjnaaGreatDoorW.PrintMore

theorem rows_known (l0 : List (List Int)) (l1 : List Int) (a2 : Int) : Ev (fun k => lw_PartsRows.j1 k l0 l1 a2 true) true := by
  refine Ev.step (fun k => lw_PartsRows.j1.eq_2 _ _ _ _ _) ?_
  simp only [if_true]
  exact Ev.bind (a := true) (g := fun _ => lw_known.f) (Ev.now _) (Ev.now _)
theorem rows_j2 (l0 : List (List Int)) (h0 : ∀ b ∈ l0, Dg b ∧ b.length ≤ 200) (hn : l0.length ≤ 200) : Ev (fun k => lw_PartsRows.j2 k l0 (manyV l0).1 (manyV l0).2 false) true := by
  have h8 : ∀ b ∈ l0, Dg b ∧ b.length ≤ 8000 := fun b hb => ⟨(h0 b hb).1, by have := (h0 b hb).2; omega⟩
  refine Ev.step (fun k => lw_PartsRows.j2.eq_2 _ _ _ _ _) ?_
  simp only [Bool.false_eq_true, if_false]
  unfold manyV
  by_cases h : 50 < l0.length
  · simp only [if_pos h, if_neg (show ¬ ((3 : Int) = 0) by decide)]
    exact Ev.bind (a := true) (g := fun _ => lw_known.f) (Ev.now _) (Ev.now _)
  · simp only [if_neg h, if_true]
    have hml := manyB_len l0 h8
    have hpl := putN_len l0.length
    have hS : parts_Split.f (putN l0.length ++ manyB l0) = some (l0, 0) := by
      unfold parts_Split.f
      rw [if_pos ⟨Dg_append (putN_wf _ (by omega)) (manyB_dg l0 h8), by rw [List.length_append, hpl]; split <;> omega⟩, split_many l0 h8 (by omega)]
    refine Ev.bind (g := fun _ => parts_Split.f (putN l0.length ++ manyB l0)) (by rw [hS]; exact Ev.now _) ?_
    simp only [if_true]
    refine Ev.bind (g := fun _ => rf18_Same.f l0 l0) (by rw [rsame_ev (fun x hx => (h0 x hx).1) (fun x hx => (h0 x hx).1) (by omega) rfl]; exact Ev.now _) ?_
    simp only [if_true]
    exact Ev.bind (a := true) (g := fun _ => lw_known.f) (Ev.now _) (Ev.now _)
theorem rows_j1 (l0 : List (List Int)) (l1 : List Int) (a2 : Int) (h0 : ∀ b ∈ l0, Dg b ∧ b.length ≤ 200) (hn : l0.length ≤ 200) (d1 : Dg l1) (h1 : l1.length ≤ 300) : Ev (fun k => lw_PartsRows.j1 k l0 l1 a2 false) true := by
  have h8 : ∀ b ∈ l0, Dg b ∧ b.length ≤ 8000 := fun b hb => ⟨(h0 b hb).1, by have := (h0 b hb).2; omega⟩
  have hM : parts_Many.f l0 = some ((manyV l0).1, (manyV l0).2) := by unfold parts_Many.f; rw [if_pos ⟨h8, by omega⟩]
  have hU : parts_Unwrap.f l1 a2 = some ((unwF l1 a2).1, (unwF l1 a2).2.1, (unwF l1 a2).2.2) := by unfold parts_Unwrap.f; rw [if_pos ⟨d1, by omega⟩]
  have hS : parts_Split.f l1 = some ((splitV l1).1, (splitV l1).2) := by unfold parts_Split.f; rw [if_pos ⟨d1, by omega⟩]
  have hsl := splitV_len l1
  refine Ev.step (fun k => lw_PartsRows.j1.eq_2 _ _ _ _ _) ?_
  simp only [Bool.false_eq_true, if_false]
  refine Ev.bind (g := fun _ => parts_Many.f l0) (by rw [hM]; exact Ev.now _) ?_
  refine Ev.bind (rmany_ev l0 h8 (by omega)) ?_
  refine Ev.bind (g := fun _ => parts_Unwrap.f l1 a2) (by rw [hU]; exact Ev.now _) ?_
  refine Ev.bind (runw_ev l1 a2 d1 (by omega)) ?_
  refine Ev.bind (g := fun _ => parts_Split.f l1) (by rw [hS]; exact Ev.now _) ?_
  refine Ev.bind (rsplit_ev l1 d1 (by omega)) ?_
  refine Ev.bind (g := fun _ => rf00_Same.f (manyV l0).1 (manyV l0).1) (by rw [same_self]; exact Ev.now _) ?_
  simp only [if_true]
  refine Ev.bind (g := fun _ => rf00_Same.f (unwF l1 a2).1 (unwF l1 a2).1) (by rw [same_self]; exact Ev.now _) ?_
  simp only [if_true]
  refine Ev.bind (g := fun _ => rf18_Same.f (splitV l1).1 (splitV l1).1) (by rw [rsame_ev (splitV_dg l1 d1) (splitV_dg l1 d1) (by omega) rfl]; exact Ev.now _) ?_
  simp only [if_true, bne_self_eq_false]
  exact rows_j2 l0 h0 hn
theorem rows_l0 (l0 : List (List Int)) (l1 : List Int) (a2 : Int) (h0 : ∀ b ∈ l0, Dg b) (hc : cnt l0 ≤ 1048576) (d1 : Dg l1) : ∀ m i : Nat, i + m = l0.length → Ev (fun k => lw_PartsRows.l0 k l0 l1 a2 ((cnt (l0.take i) : Nat) : Int) (i : Int)) true := by
  have hcl := cnt_len l0
  intro m
  induction m with
  | zero =>
    intro i hm
    refine Ev.step (fun k => lw_PartsRows.l0.eq_2 _ _ _ _ _ _) ?_
    simp only [if_neg (show ¬ ((i : Int) < (l0.length : Int)) by omega)]
    rw [List.take_of_length_le (by omega)]
    by_cases c0 : (cnt l0 : Int) > 200
    · simp only [if_pos c0]
      exact rows_known l0 l1 a2
    · simp only [if_neg c0]
      by_cases c1 : (l1.length : Int) > 300
      · rw [decide_eq_true c1]
        exact rows_known l0 l1 a2
      · rw [decide_eq_false c1]
        exact rows_j1 l0 l1 a2 (fun b hb => ⟨h0 b hb, by have := cnt_mem l0 b hb; omega⟩) (by omega) d1 (by omega)
  | succ m ih =>
    intro i hm
    have hi : i < l0.length := by omega
    have ht := cnt_take l0 (i + 1)
    have ih := ih (i + 1) (by omega)
    rw [take_snoc l0 i hi, cnt_snoc] at ih ht
    have hb : l0[i].length ≤ 1048576 := by omega
    refine Ev.step (fun k => lw_PartsRows.l0.eq_2 _ _ _ _ _ _) ?_
    simp only [if_pos (show (i : Int) < (l0.length : Int) by omega), if_pos (show (0 : Int) ≤ (i : Int) by omega), rd4_at l0 i hi, nx (show i < 4611686018427387904 by omega)]
    rw [Ec.w64 (x := ((cnt (l0.take i) : Nat) : Int) + 1) (by omega) (by omega), Ec.w64 (by omega) (by omega), show ((cnt (l0.take i) : Nat) : Int) + 1 + (l0[i].length : Int) = ((cnt (l0.take i) + (1 + l0[i].length) : Nat) : Int) by omega]
    exact ih
theorem PartsRows : lw_PartsRows.Pure := by
  intro l0 l1 a2 h0 h1 h2 hb
  rw [bulk_cnt] at hb
  have hc : cnt l0 ≤ 1048576 := by
    generalize (l1.map fun _ => 1).sum = s at hb
    omega
  exact Ev.rounds (rows_l0 l0 l1 a2 (fun b hb x hx => w8 ((h0.2 b hb).2 x hx)) hc (fun x hx => w8 (h1.2 x hx)) l0.length 0 (by omega))
end Go.Proofs.YtbdbobjdlomjnaaGreatDoor.Pure
