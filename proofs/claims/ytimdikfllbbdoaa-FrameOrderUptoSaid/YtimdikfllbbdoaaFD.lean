/- Sections, read: the program's way. No condition. -/
import Derived.Test.YtimdikfllbbdoaaPx18
import Derived.Test.YtimdikfllbbdoaaPx19
import Derived.Test.YtimdikfllbbdoaaFE
namespace Go.Proofs.Ytimdikfllbbdoaa.Fv
set_option linter.unusedVariables false
set_option linter.unusedSimpArgs false
open Go.RowKit Go.Proofs.Ytimdikfllbbdoaa.P Go.Proofs.Ytimdikfllbbdoaa.C Go.Proofs.YtimdikfllbbdoaaW.PrintWords Go.Proofs.YtimdikfllbbdoaaW.PrintLast Go.Proofs.YtimdikfllbbdoaaW.PrintMore

/-- A section's bytes, if they are all there: at the head of a row; the kind, the bytes, how many were read, the error. -/
def secT (c : Int) (l : List Int) (g : Nat × Nat × Int) : Int × List Int × Nat × Int :=
  if g.2.2 ≠ 0 then (0, [], 0, g.2.2) else if g.1 > 1048576 then (0, [], 0, 3) else if 1 + g.2.1 + g.1 + 4 > l.length then (0, [], 0, 10)
  else if (chkV (l.take (1 + g.2.1 + g.1 + 4))).2 = 0 then (c, (l.take (1 + g.2.1 + g.1)).drop (1 + g.2.1), 1 + g.2.1 + g.1 + 4, 0) else (0, [], 0, (chkV (l.take (1 + g.2.1 + g.1 + 4))).2)
def secV (l : List Int) (q : Int) : Int × List Int × Nat × Int :=
  match l with
  | [] => (0, [], 0, 10)
  | c :: cs => if c = 0 then (0, [], 1, 0) else if c ≤ q ∨ c > 9 then (0, [], 0, 11) else secT c (c :: cs) (gv cs 0 0)

theorem secV_cons (c : Int) (cs : List Int) (q : Int) : secV (c :: cs) q = if c = 0 then (0, [], 1, 0) else if c ≤ q ∨ c > 9 then (0, [], 0, 11) else secT c (c :: cs) (gv cs 0 0) := rfl
/-- What the program tells of a section at place a. -/
def secR (a : Nat) (r : Int × List Int × Nat × Int) : Int × List Int × Int × Int := (r.1, r.2.1, if r.2.2.2 = 0 then ((a + r.2.2.1 : Nat) : Int) else 0, r.2.2.2)
theorem gR_err (a n m : Nat) (e : Int) (h : e ≠ 0) : gR a (n, m, e) = (0, 0, e) := if_neg h
theorem gR_ok (a n m : Nat) : gR a (n, m, 0) = ((n : Int), ((a + m : Nat) : Int), 0) := rfl
theorem secR_err (a : Nat) (e : Int) (h : e ≠ 0) : secR a (0, [], 0, e) = (0, [], 0, e) := by unfold secR; rw [if_neg h]
theorem secR_ok (a m : Nat) (k : Int) (B : List Int) : secR a (k, B, m, 0) = (k, B, ((a + m : Nat) : Int), 0) := rfl

theorem wp2 (x n : Nat) (h : x + n ≤ 100000000) : wrap64 ((x : Int) + (n : Int)) = ((x + n : Nat) : Int) := by rw [w64 (by omega) (by omega)]; omega
theorem wp4 (x : Nat) (h : x ≤ 100000000) : wrap64 ((x : Int) + 4) = ((x + 4 : Nat) : Int) := by rw [w64 (by omega) (by omega)]; omega
theorem wm4 (x : Nat) (h : x ≤ 100000000) : wrap64 (((x + 4 : Nat) : Int) - 4) = (x : Int) := by rw [w64 (by omega) (by omega)]; omega
theorem sec_j0 (b : List Int) (h : ∀ c ∈ b, 0 ≤ c ∧ c ≤ 255) (hl : b.length ≤ 1048576) (a : Nat) (ha : a < b.length) (c q : Int) (z : Bool) (hz : z = decide (c ≤ q ∨ c > 9)) :
    Ev (fun k => frame_section.j0 k b (a : Int) c z) (secR a (if c ≤ q ∨ c > 9 then (0, [], 0, 11) else secT c (b.drop a) (gv (b.drop (a + 1)) 0 0))) := by
  have hg := get_ev b h (by omega) (a + 1) (by omega)
  have hdlen : (b.drop a).length = b.length - a := List.length_drop
  refine Ev.step (fun k => frame_section.j0.eq_2 _ _ _ _ _) ?_
  by_cases hq : c ≤ q ∨ c > 9
  · rw [decide_eq_true hq] at hz
    subst hz
    simp only [if_true, if_pos hq]
    rw [secR_err _ _ (by omega)]
    exact Ev.now _
  · rw [decide_eq_false hq] at hz
    subst hz
    simp only [Bool.false_eq_true, if_false, if_neg hq, nx a (by omega)]
    have hgl := gv_len (b.drop (a + 1)) 0 0
    rw [List.length_drop] at hgl
    generalize gv (b.drop (a + 1)) 0 0 = g at *
    obtain ⟨n, m, e⟩ := g
    by_cases he0 : e = 0
    · subst he0
      have hm := hgl (by show (0 : Int) ≠ 10; omega)
      simp only at hm
      clear hgl
      unfold secT
      rw [gR_ok] at hg
      refine Ev.bind hg ?_
      clear hg
      simp only [if_true, ne_eq, not_true_eq_false, if_false]
      by_cases hn : n > 1048576
      · simp only [if_pos (show (n : Int) > 1048576 by omega), if_pos hn]
        rw [secR_err _ _ (by omega)]
        exact Ev.now _
      · simp only [if_neg (show ¬ ((n : Int) > 1048576) by omega), if_neg hn, w64 (x := (n : Int)) (by omega) (by omega), w64 (x := (n : Int) + 4) (by omega) (by omega), w64 (x := (b.length : Int) - ((a + 1 + m : Nat) : Int)) (by omega) (by omega)]
        by_cases hlen : 1 + m + n + 4 > (b.drop a).length
        · simp only [if_pos (show (n : Int) + 4 > (b.length : Int) - ((a + 1 + m : Nat) : Int) by omega), if_pos hlen]
          rw [secR_err _ _ (by omega)]
          exact Ev.now _
        · have hb1 : a + 1 + m + n ≤ 100000000 := by omega
          simp only [wp2 (a + 1 + m) n hb1, wp4 (a + 1 + m + n) hb1, wm4 (a + 1 + m + n) hb1, if_neg (show ¬ ((n : Int) + 4 > (b.length : Int) - ((a + 1 + m : Nat) : Int)) by omega), if_neg hlen, if_pos (show (0 : Int) ≤ (a : Int) by omega), if_pos (show (a : Int) ≤ ((a + 1 + m + n + 4 : Nat) : Int) by omega), if_pos (show ((a + 1 + m + n + 4 : Nat) : Int) ≤ (b.length : Int) by omega), Int.toNat_natCast]
          have et : (b.take (a + 1 + m + n + 4)).drop a = (b.drop a).take (1 + m + n + 4) := by
            rw [List.drop_take]
            congr 1
            omega
          have et2 : (b.take (a + 1 + m + n)).drop (a + 1 + m) = ((b.drop a).take (1 + m + n)).drop (1 + m) := by
            rw [List.drop_take, List.drop_take, List.drop_drop, show a + 1 + m + n - (a + 1 + m) = 1 + m + n - (1 + m) by omega, show a + 1 + m = a + (1 + m) by omega]
          rw [et]
          have hck := check_ev ((b.drop a).take (1 + m + n + 4)) (fun c hc => h c (List.mem_of_mem_drop (List.mem_of_mem_take hc))) (by rw [List.length_take]; omega)
          refine Ev.bind hck ?_
          have hlt : (((b.drop a).take (1 + m + n)).drop (1 + m)).length < 140737488355328 := by rw [List.length_drop, List.length_take]; omega
          clear hck et
          generalize chkV ((b.drop a).take (1 + m + n + 4)) = r
          by_cases hr0 : r.2 = 0
          · simp only [if_pos hr0, if_true, if_pos (show (0 : Int) ≤ ((a + 1 + m : Nat) : Int) by omega), if_pos (show ((a + 1 + m : Nat) : Int) ≤ ((a + 1 + m + n : Nat) : Int) by omega), if_pos (show ((a + 1 + m + n : Nat) : Int) ≤ (b.length : Int) by omega), List.length_nil, et2, Nat.zero_add, List.nil_append, if_pos hlt]
            rw [secR_ok, show a + 1 + m + n + 4 = a + (1 + m + n + 4) by omega]
            exact Ev.now _
          · simp only [if_neg hr0]
            rw [secR_err _ _ hr0]
            exact Ev.now _
    · unfold secT
      rw [gR_err _ _ _ _ he0] at hg
      refine Ev.bind hg ?_
      simp only [if_neg he0, ne_eq, he0, not_false_eq_true, if_true]
      rw [secR_err _ _ he0]
      exact Ev.now _
theorem sec_ev (b : List Int) (h : ∀ c ∈ b, 0 ≤ c ∧ c ≤ 255) (hl : b.length ≤ 1048576) (a : Nat) (ha : a ≤ b.length) (q : Int) :
    Ev (fun k => frame_section.f k b (a : Int) q) (secR a (secV (b.drop a) q)) := by
  unfold frame_section.f
  by_cases he : a = b.length
  · simp only [if_pos (show (a : Int) = (b.length : Int) by omega)]
    rw [List.drop_eq_nil_of_le (by omega)]
    exact Ev.now _
  · have hil : a < b.length := by omega
    have hcN := cN_lt b h a
    have hr := rdN b h a hil
    have hdl : ((cN b a : Int) :: b.drop (a + 1)) = b.drop a := by rw [← getN b h a hil, ← List.drop_eq_getElem_cons hil]
    have hsv := secV_cons (cN b a : Int) (b.drop (a + 1)) q
    rw [hdl] at hsv
    simp only [if_neg (show ¬ ((a : Int) = (b.length : Int)) by omega), if_pos (show (0 : Int) ≤ (a : Int) by omega), if_pos (show (a : Int) < (b.length : Int) by omega), hr, w64 (x := ((cN b a : Nat) : Int)) (by omega) (by omega), hsv]
    clear hsv hdl hr
    generalize cN b a = c at *
    by_cases h0 : c = 0
    · simp only [if_pos (show (c : Int) = 0 by omega), nx a (by omega)]
      exact Ev.now _
    · simp only [if_neg (show ¬ ((c : Int) = 0) by omega)]
      by_cases hq : (c : Int) ≤ q
      · simp only [if_pos hq]
        exact sec_j0 b h hl a hil c q true (decide_eq_true (.inl hq)).symm
      · simp only [if_neg hq]
        refine sec_j0 b h hl a hil c q _ ?_
        rw [Bool.eq_iff_iff, decide_eq_true_eq, decide_eq_true_eq]
        omega

def decV : Nat → List Int → Int → List S33 → List S33 × Int
  | 0, _, _, _ => ([], 10)
  | f + 1, l, q, out => if (secV l q).2.2.2 ≠ 0 then ([], (secV l q).2.2.2) else if (secV l q).1 = 0 then (if (secV l q).2.2.1 < l.length then ([], 11) else (out, 0)) else decV f (l.drop (secV l q).2.2.1) (secV l q).1 (out ++ [⟨(secV l q).1, (secV l q).2.1⟩])
theorem secV_len (l : List Int) (q : Int) (h : (secV l q).2.2.2 = 0) : 1 ≤ (secV l q).2.2.1 ∧ (secV l q).2.2.1 ≤ l.length := by
  match l with
  | [] => simp [secV] at h
  | c :: cs =>
    unfold secV at h ⊢
    by_cases h0 : c = 0
    · simp only [if_pos h0]; simp
    · simp only [if_neg h0] at h ⊢
      by_cases hq : c ≤ q ∨ c > 9
      · simp only [if_pos hq] at h; exact absurd h (by omega)
      · simp only [if_neg hq] at h ⊢
        unfold secT at h ⊢
        by_cases h1 : (gv cs 0 0).2.2 ≠ 0
        · simp only [if_pos h1] at h; exact absurd h h1
        · simp only [if_neg h1] at h ⊢
          by_cases h2 : (gv cs 0 0).1 > 1048576
          · simp only [if_pos h2] at h; exact absurd h (by omega)
          · simp only [if_neg h2] at h ⊢
            by_cases h3 : 1 + (gv cs 0 0).2.1 + (gv cs 0 0).1 + 4 > (c :: cs).length
            · simp only [if_pos h3] at h; exact absurd h (by omega)
            · simp only [if_neg h3] at h ⊢
              by_cases h4 : (chkV ((c :: cs).take (1 + (gv cs 0 0).2.1 + (gv cs 0 0).1 + 4))).2 = 0
              · simp only [if_pos h4]; omega
              · simp only [if_neg h4] at h; exact absurd h h4
theorem dec_l0 (b : List Int) (h : ∀ c ∈ b, 0 ≤ c ∧ c ≤ 255) (hl : b.length ≤ 1048576) : ∀ (f a : Nat) (q : Int) (out : List S33), a ≤ b.length → b.length - a < f → out.length ≤ a →
    Ev (fun k => frame_Decode.l0 k b out (a : Int) q) (decV f (b.drop a) q out) := by
  intro f
  induction f with
  | zero => intro a q out ha hf; omega
  | succ f ih =>
    intro a q out ha hf ho
    refine Ev.step (fun k => frame_Decode.l0.eq_2 _ _ _ _ _) ?_
    refine Ev.bind (sec_ev b h hl a ha q) ?_
    rw [decV]
    have hlen := secV_len (b.drop a) q
    have hdl : (b.drop a).length = b.length - a := List.length_drop
    generalize hr : secV (b.drop a) q = r at *
    clear hr
    obtain ⟨k', B, n, e⟩ := r
    simp only [secR] at hlen ⊢
    by_cases he : e = 0
    · subst he
      have hn := hlen rfl
      rw [hdl] at hn
      simp only [if_true, ne_eq, not_true_eq_false, if_false]
      by_cases hk : k' = 0
      · simp only [if_pos hk, hdl]
        by_cases hx : n < b.length - a
        · simp only [if_pos hx, if_pos (show ((a + n : Nat) : Int) < (b.length : Int) by omega)]
          exact Ev.now _
        · simp only [if_neg hx, if_neg (show ¬ (((a + n : Nat) : Int) < (b.length : Int)) by omega), if_neg (show ¬ (((a + n : Nat) : Int) > 1048576) by omega)]
          exact Ev.now _
      · simp only [if_neg hk, if_pos (show out.length < 4398046511104 by omega), List.drop_drop]
        exact ih (a + n) k' _ (by omega) (by omega) (by rw [List.length_append]; show out.length + 1 ≤ _; omega)
    · simp only [if_neg he, ne_eq, he, not_false_eq_true, if_true]
      exact Ev.now _
def hdL : List Int → List Int → Int
  | [], _ => 0
  | _ :: _, [] => 10
  | c :: cs, x :: xs => if x = c then hdL cs xs else 11
theorem hd_at' (b : List Int) (h : ∀ c ∈ b, 0 ≤ c ∧ c ≤ 255) : ∀ (cs : List Int) (i : Nat), i ≤ b.length → frame_Decode.hdAt b cs i = hdL cs (b.drop i)
  | [], i, hi => by cases b.drop i <;> rfl
  | c :: cs, i, hi => by
    rw [frame_Decode.hdAt]
    by_cases he : i = b.length
    · rw [if_pos he, List.drop_eq_nil_of_le (by omega)]
      rfl
    · rw [if_neg he, List.drop_eq_getElem_cons (show i < b.length by omega), rdN b h i (by omega), ← getN b h i (by omega), hd_at' b h cs (i + 1) (by omega), hdL]
def decW (b : List Int) : List S33 × Int := if hdL hdB b = 0 then decV (b.length + 1) (b.drop 5) 0 [] else ([], hdL hdB b)
theorem hdL_len : ∀ (cs l : List Int), hdL cs l = 0 → cs.length ≤ l.length
  | [], l, _ => by simp
  | c :: cs, [], h => by simp [hdL] at h
  | c :: cs, x :: xs, h => by
    rw [hdL] at h
    split at h
    · have := hdL_len cs xs h
      simp only [List.length_cons]
      omega
    · omega
theorem dec_ev (b : List Int) (h : ∀ c ∈ b, 0 ≤ c ∧ c ≤ 255) (hl : b.length ≤ 1048576) : Ev (fun k => frame_Decode.f k b) (decW b) := by
  unfold frame_Decode.f decW frame_Decode.hd
  have e : frame_Decode.hdAt b [76, 80, 68, 89, 1] 0 = hdL hdB b := by
    rw [hd_at' b h _ 0 (Nat.zero_le _), List.drop_zero]
    rfl
  rw [e]
  by_cases h0 : hdL hdB b = 0
  · simp only [if_pos h0]
    have h5 : 5 ≤ b.length := hdL_len hdB b h0
    have := dec_l0 b h hl (b.length + 1) 5 0 [] h5 (by omega) (Nat.zero_le _)
    exact this
  · simp only [if_neg h0]
    exact Ev.now _
/-- What the chapter's example fixes. -/
theorem known_ev : Ev (fun k => lapidarylaw03_known.f k) true := by
  unfold lapidarylaw03_known.f
  refine Ev.bind (enc_ev [] (fun s hs => by simp at hs) (by decide)) ?_
  refine Ev.bind (dec_ev [76, 80, 68, 89, 1, 0] (by decide) (by decide)) ?_
  refine Ev.bind (dec_ev [76, 81] (by decide) (by decide)) ?_
  have e1 : encV [] = ([76, 80, 68, 89, 1, 0], 0) := rfl
  have e2 : decW [76, 80, 68, 89, 1, 0] = ([], 0) := rfl
  have e3 : decW [76, 81] = ([], 11) := rfl
  simp only [e1, e2, e3, same_self, Option.bind_some, if_true, List.length_nil]
  exact Ev.now _
end Go.Proofs.Ytimdikfllbbdoaa.Fv
