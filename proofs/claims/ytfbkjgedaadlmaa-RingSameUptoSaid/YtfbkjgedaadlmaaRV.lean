/- slices.EqualFunc of rows of numbers by slices.Equal, and ring.Same: the walks. No condition. -/
import Derived.Test.YtfbkjgedaadlmaaRU
namespace Go.Proofs.Ytfbkjgedaadlmaa.Rw
set_option linter.unusedVariables false
set_option linter.unusedSimpArgs false
open Go Go.RowKit Go.Proofs.Ytfbkjgedaadlmaa.P Go.Proofs.YtfbkjgedaadlmaaW.PrintWords Go.Proofs.YtfbkjgedaadlmaaW.PrintLast Go.Proofs.YtfbkjgedaadlmaaW.PrintMore

def intV (v : Value) : Int := match v with | .int _ n => n | _ => 0
theorem get_row (x : List (List Int)) (k : Nat) (h : k < x.length) : x.getD k [] = x[k] := by simp [List.getD, List.getElem?_eq_getElem h]
/-- A row of rows: what stands at a place. -/
theorem row_at (w : World) (A : Option Addr) (x : List (List Int)) (hr : Kd.C (Kd.slice 3 (Kd.int .i64)) w A x.length x) (k : Nat) (hk : k < x.length) :
    ∃ ad A1 c1, A = some ad ∧ w.cell? (ad.add k) = some (.slice A1 x[k].length c1) ∧ x[k].length ≤ c1 ∧ Kd.C (Kd.int .i64) w A1 x[k].length x[k] := by
  obtain ⟨ad, cs, hA, _, hx, hc⟩ := Kd.C_get hr [] (k : Int) (by omega) (by omega)
  obtain ⟨A1, c1, e1, hc1, hr1⟩ := hx
  subst e1
  have hc0 := hc 0 _ rfl
  have e0 : (Int.toNat (k : Int)) * (Kd.slice 3 (Kd.int IntKind.i64)).sz + 0 = k := by
    have : (Kd.slice 3 (Kd.int IntKind.i64)).sz = 1 := rfl
    rw [this]; omega
  rw [e0] at hc0
  rw [show (Int.toNat (k : Int)) = k by omega, get_row x k hk] at hc0 hr1 hc1
  exact ⟨ad, A1, c1, hA, hc0, hc1, hr1⟩

set_option maxHeartbeats 8000000 in
set_option maxRecDepth 100000 in
theorem eqf_calls (A0 A1 : Option Addr) (c0 c1 : Nat) (x y : List (List Int)) (w : World) (hr0 : Kd.C (Kd.slice 3 (Kd.int .i64)) w A0 x.length x) (hr1 : Kd.C (Kd.slice 3 (Kd.int .i64)) w A1 y.length y) (hb : x.length ≤ 4611686018427387903) (hx : ∀ a ∈ x, a.length ≤ 4611686018427387903) :
    Calls Try.prog 25 #[.slice A0 x.length c0, .slice A1 y.length c1, .func (.func 26) #[] #[]] w fun e w' => e = .returned (.bool (decide (x = y))) ∧ Drawn0 w w' := by
  by_cases hl : x.length = y.length
  · have HL := Aside0.mk hl
    have hlb : ((x.length : Int) != (y.length : Int)) = false := bne_eq_false_iff_eq.mpr (by omega)
    clear hl
    go_enter Try.func25, Try.ntmps25
    go_wp2
    clear hlb
    go_loopw [17] (fun v wr => ∃ k m : Nat, k ≤ x.length ∧ v = .int .i64 k ∧ wr = w.drewN m ∧ x.take k = y.take k) (fun v _ => x.length - (intV v).toNat)
    case atStart => exact ⟨0, 0, by omega, rfl, rfl, rfl⟩
    case round =>
      obtain ⟨k, m, hk, rfl, rfl, heq⟩ := hrel
      have HEQ := Aside0.mk heq
      clear heq
      rcases Nat.lt_or_ge k x.length with hlt | hge
      · obtain ⟨ad0, B0, d0, rfl, hc0, hd0, hq0⟩ := row_at w A0 x hr0 k hlt
        obtain ⟨ad1, B1, d1, rfl, hc1, hd1, hq1⟩ := row_at w A1 y hr1 k (by have := HL.out; omega)
        have hc0' : (w.drewN m).cell? (ad0.add k) = some (.slice B0 x[k].length d0) := hc0
        have hc1' : (w.drewN m).cell? (ad1.add k) = some (.slice B1 (y[k]'(by have := HL.out; omega)).length d1) := hc1
        have hlti : (k : Int) < (x.length : Int) := by omega
        have hltb : decide ((k : Int) < (x.length : Int)) = true := decide_eq_true hlti
        have hlty : (k : Int) < (y.length : Int) := by have := HL.out; omega
        obtain ⟨K, hK⟩ := eqI_ev x[k] (y[k]'(by have := HL.out; omega)) (hx _ (List.getElem_mem hlt))
        have hK := hK K (Nat.le_refl _)
        have hcall := slices_Equal_int_int.calls K B0 d0 x[k] B1 d1 (y[k]'(by have := HL.out; omega)) _ (w.drewN m) (Kd.C_drewN hq0 m) hd0 (Kd.C_drewN hq1 m) hd1 hK
        have hstep : x[k] = y[k]'(by have := HL.out; omega) → Aside0 (x.take (k + 1) = y.take (k + 1)) := fun he => ⟨by rw [List.take_add_one, List.getElem?_eq_getElem hlt, List.take_add_one, List.getElem?_eq_getElem (by have := HL.out; omega), HEQ.out, he]⟩
        have hne : ¬ x[k] = y[k]'(by have := HL.out; omega) → Aside0 (decide (x = y) = false) := fun he => ⟨decide_eq_false (fun e => he (by simp [e]))⟩
        generalize hu : x[k] = u at *
        generalize hv : y[k]'(by have := HL.out; omega) = v at *
        clear hc0 hc1 hK
        by_cases he : u = v
        · rw [decide_eq_true he] at hcall
          have hst := hstep he
          clear hstep hne he hu hv
          go_wp2_with (go_at_call 26; refine hcall.mono ?_; rintro e w2 ⟨rfl, ⟨nd, rfl⟩⟩)
          go_roundw
          case rel =>
            exact ⟨k + 1, m + nd, by omega, rfl, by simp [World.drewN, Nat.add_assoc], hst.out⟩
          case measure => simp [intV]; omega
        · rw [decide_eq_false he] at hcall
          have hn := hne he
          clear hstep hne he hu hv
          go_wp2_with (go_at_call 26; refine hcall.mono ?_; rintro e w2 ⟨rfl, ⟨nd, rfl⟩⟩)
          go_ret
          exact ⟨by rw [hn.out]; rfl, ⟨m + nd, by simp [World.drewN, Nat.add_assoc]⟩⟩
      · obtain rfl : k = x.length := by omega
        have hxy : x = y := by
          have heq := HEQ.out
          rw [List.take_length, HL.out, List.take_length] at heq
          exact heq
        go_wp2
        go_ret
        exact ⟨by rw [decide_eq_true hxy]; rfl, ⟨m, rfl⟩⟩
  · have hne := len_ne x y hl
    have hli : ¬ (x.length : Int) = (y.length : Int) := by omega
    go_enter Try.func25, Try.ntmps25
    go_wp2
    go_ret
    exact ⟨by rw [hne]; rfl, ⟨0, rfl⟩⟩
end Go.Proofs.Ytfbkjgedaadlmaa.Rw
