/- Bytes that are wrapped are unwrapped as they were, whatever stands ahead or behind, and the place behind them is told; they are wrapped as the document says. No condition. -/
import Derived.Test.YtbdbobjdlomjnaaGreatDoorZ22
namespace Go.Proofs.YtbdbobjdlomjnaaGreatDoor.Pure
set_option linter.unusedVariables false
set_option linter.unusedSimpArgs false
open Go Go.RowKit Go.Proofs.YtbdbobjdlomjnaaGreatDoor.P Go.Proofs.YtbdbobjdlomjnaaGreatDoor.C Go.Proofs.YtbdbobjdlomjnaaGreatDoor.Fv Go.Proofs.YtbdbobjdlomjnaaGreatDoor.Ec Go.Proofs.YtbdbobjdlomjnaaGreatDoorW.PrintWords Go.Proofs.YtbdbobjdlomjnaaGreatDoorW.PrintLast Go.Proofs.YtbdbobjdlomjnaaGreatDoorW.PrintMore

theorem wraps_known (l0 l1 l2 : List Int) : Ev (fun k => lw_PartsWraps.j0 k l0 l1 l2 true) true := by
  refine Ev.step (fun k => lw_PartsWraps.j0.eq_2 _ _ _ _ _) ?_
  simp only [if_true]
  exact Ev.bind (a := true) (g := fun _ => lw_known.f) (Ev.now _) (Ev.now _)
theorem PartsWraps : lw_PartsWraps.Pure := by
  intro l0 l1 l2 m0 s0 w0 m1 s1 w1 m2 s2 w2
  have d0 : Dg l0 := fun x hx => w8 (w0 x hx)
  have d1 : Dg l1 := fun x hx => w8 (w1 x hx)
  have d2 : Dg l2 := fun x hx => w8 (w2 x hx)
  refine Ev.rounds ?_
  unfold lw_PartsWraps.f
  by_cases c0 : (l0.length : Int) > 150
  · simp only [if_pos c0]
    exact wraps_known l0 l1 l2
  · simp only [if_neg c0]
    have e1 : wrap64 ((l1.length : Int) + (l2.length : Int)) = (l1.length : Int) + (l2.length : Int) := Ec.w64 (by omega) (by omega)
    rw [e1]
    by_cases c1 : (l1.length : Int) + (l2.length : Int) > 200
    · rw [decide_eq_true c1]
      exact wraps_known l0 l1 l2
    · rw [decide_eq_false c1]
      have hwl := wrapV_len (In_dg.2 d0)
      have hwd := wrapV_dg d0 (by omega)
      have hW : parts_Wrap.f l0 = some (wrapV l0, 0) := by unfold parts_Wrap.f; rw [if_pos ⟨d0, by omega⟩]
      have hU : parts_Unwrap.f (l1 ++ wrapV l0 ++ l2) (l1.length : Int) = some (l0, ((l1.length + (wrapV l0).length : Nat) : Int), 0) := by
        unfold parts_Unwrap.f
        have hlen : (l1 ++ wrapV l0 ++ l2).length = l1.length + (wrapV l0).length + l2.length := by rw [List.length_append, List.length_append]
        rw [if_pos ⟨Dg_append (Dg_append d1 hwd) d2, by omega⟩, unwF_nat _ _ (by omega), List.append_assoc, unw_wrap d0 (by omega)]
      refine Ev.step (fun k => lw_PartsWraps.j0.eq_2 _ _ _ _ _) ?_
      simp only [Bool.false_eq_true, if_false]
      refine Ev.bind (g := fun _ => parts_Wrap.f l0) (by rw [hW]; exact Ev.now _) ?_
      have k1 : ([] : List Int).length + l1.length < 140737488355328 := by simp; omega
      simp only [if_pos k1, List.nil_append, Option.bind_some]
      have k2 : l1.length + (wrapV l0).length < 140737488355328 := by omega
      simp only [if_pos k2, Option.bind_some]
      have k3 : (l1 ++ wrapV l0).length + l2.length < 140737488355328 := by rw [List.length_append]; omega
      simp only [if_pos k3]
      refine Ev.bind (g := fun _ => parts_Unwrap.f (l1 ++ wrapV l0 ++ l2) (l1.length : Int)) (by rw [hU]; exact Ev.now _) ?_
      refine Ev.bind (rwrap_ev l0 (In_dg.2 d0) (by omega)) ?_
      simp only [if_true]
      refine Ev.bind (g := fun _ => rf00_Same.f (wrapV l0) (wrapV l0)) (by rw [same_self]; exact Ev.now _) ?_
      simp only [if_true]
      refine Ev.bind (g := fun _ => rf00_Same.f l0 l0) (by rw [same_self]; exact Ev.now _) ?_
      have e2 : wrap64 ((l1.length : Int) + ((wrapV l0).length : Int)) = ((l1.length + (wrapV l0).length : Nat) : Int) := by rw [Ec.w64 (by omega) (by omega)]; omega
      simp only [if_true, e2]
      exact Ev.bind (a := true) (g := fun _ => lw_known.f) (Ev.now _) (Ev.now _)
end Go.Proofs.YtbdbobjdlomjnaaGreatDoor.Pure
