/- Sections, read: the program's way. No condition. What is written is read; cut short it is missing some; with any behind it is none; what is read is what is written. No condition. The document's way of reading sections, byte by byte: the machine, and that it tells what is read at once. No condition. The feeder in memory: what holds of it; New, Taken. No condition. begin: a byte of the head, or a kind. No condition. -/
import Derived.Test.YtglmfnaofpbpfaaZ6
import Derived.Test.YtglmfnaofpbpfaaZ12
import Derived.Test.YtglmfnaofpbpfaaZ2
import Derived.Test.YtglmfnaofpbpfaaZ7

namespace Go.Proofs.Ytglmfnaofpbpfaa.Fv
set_option linter.unusedVariables false
set_option linter.unusedSimpArgs false
open Go.RowKit Go.Proofs.Ytglmfnaofpbpfaa.P Go.Proofs.Ytglmfnaofpbpfaa.C Go.Proofs.YtglmfnaofpbpfaaW.PrintWords Go.Proofs.YtglmfnaofpbpfaaW.PrintLast Go.Proofs.YtglmfnaofpbpfaaW.PrintMore

/-- A section's bytes, if they are all there: at the head of a row; the kind, the bytes, how many were read, the error. -/
def secT (c : Int) (l : List Int) (g : Nat × Nat × Int) : Int × List Int × Nat × Int :=
  if g.2.2 ≠ 0 then (0, [], 0, g.2.2) else if g.1 > 1048576 then (0, [], 0, 3) else if 1 + g.2.1 + g.1 + 4 > l.length then (0, [], 0, 10)
  else if (chkV (l.take (1 + g.2.1 + g.1 + 4))).2 = 0 then (c, (l.take (1 + g.2.1 + g.1)).drop (1 + g.2.1), 1 + g.2.1 + g.1 + 4, 0) else (0, [], 0, (chkV (l.take (1 + g.2.1 + g.1 + 4))).2)
def secV (l : List Int) (q : Int) : Int × List Int × Nat × Int :=
  match l with
  | [] => (0, [], 0, 10)
  | c :: cs => if c = 0 then (0, [], 1, 0) else if c ≤ q ∨ c > 9 then (0, [], 0, 11) else secT c (c :: cs) (gv cs 0 0)

theorem secV_cons (c : Int) (cs : List Int) (q : Int) : secV (c :: cs) q = if c = 0 then (0, [], 1, 0) else if c ≤ q ∨ c > 9 then (0, [], 0, 11) else secT c (c :: cs) (gv cs 0 0) := rfl
/-- What the program tells of a section at place a. -/
def secR (a : Nat) (r : Int × List Int × Nat × Int) : Int × List Int × Int × Int := (r.1, r.2.1, if r.2.2.2 = 0 then ((a + r.2.2.1 : Nat) : Int) else 0, r.2.2.2)
theorem gR_err (a n m : Nat) (e : Int) (h : e ≠ 0) : gR a (n, m, e) = (0, 0, e) := if_neg h
theorem gR_ok (a n m : Nat) : gR a (n, m, 0) = ((n : Int), ((a + m : Nat) : Int), 0) := rfl
theorem secR_err (a : Nat) (e : Int) (h : e ≠ 0) : secR a (0, [], 0, e) = (0, [], 0, e) := by unfold secR; rw [if_neg h]
theorem secR_ok (a m : Nat) (k : Int) (B : List Int) : secR a (k, B, m, 0) = (k, B, ((a + m : Nat) : Int), 0) := rfl

theorem wp2 (x n : Nat) (h : x + n ≤ 100000000) : wrap64 ((x : Int) + (n : Int)) = ((x + n : Nat) : Int) := by rw [w64 (by omega) (by omega)]; omega
theorem wp4 (x : Nat) (h : x ≤ 100000000) : wrap64 ((x : Int) + 4) = ((x + 4 : Nat) : Int) := by rw [w64 (by omega) (by omega)]; omega
theorem wm4 (x : Nat) (h : x ≤ 100000000) : wrap64 (((x + 4 : Nat) : Int) - 4) = (x : Int) := by rw [w64 (by omega) (by omega)]; omega
theorem sec_j0 (b : List Int) (h : ∀ c ∈ b, 0 ≤ c ∧ c ≤ 255) (hl : b.length ≤ 1048576) (a : Nat) (ha : a < b.length) (c q : Int) (z : Bool) (hz : z = decide (c ≤ q ∨ c > 9)) :
    Ev (fun k => frame_section.j0 k b (a : Int) c z) (secR a (if c ≤ q ∨ c > 9 then (0, [], 0, 11) else secT c (b.drop a) (gv (b.drop (a + 1)) 0 0))) := by
  have hg := get_ev b h (by omega) (a + 1) (by omega)
  have hdlen : (b.drop a).length = b.length - a := List.length_drop
  refine Ev.step (fun k => frame_section.j0.eq_2 _ _ _ _ _) ?_
  by_cases hq : c ≤ q ∨ c > 9
  · rw [decide_eq_true hq] at hz
    subst hz
    simp only [if_true, if_pos hq]
    rw [secR_err _ _ (by omega)]
    exact Ev.now _
  · rw [decide_eq_false hq] at hz
    subst hz
    simp only [Bool.false_eq_true, if_false, if_neg hq, nx a (by omega)]
    have hgl := gv_len (b.drop (a + 1)) 0 0
    rw [List.length_drop] at hgl
    generalize gv (b.drop (a + 1)) 0 0 = g at *
    obtain ⟨n, m, e⟩ := g
    by_cases he0 : e = 0
    · subst he0
      have hm := hgl (by show (0 : Int) ≠ 10; omega)
      simp only at hm
      clear hgl
      unfold secT
      rw [gR_ok] at hg
      refine Ev.bind hg ?_
      clear hg
      simp only [if_true, ne_eq, not_true_eq_false, if_false]
      by_cases hn : n > 1048576
      · simp only [if_pos (show (n : Int) > 1048576 by omega), if_pos hn]
        rw [secR_err _ _ (by omega)]
        exact Ev.now _
      · simp only [if_neg (show ¬ ((n : Int) > 1048576) by omega), if_neg hn, w64 (x := (n : Int)) (by omega) (by omega), w64 (x := (n : Int) + 4) (by omega) (by omega), w64 (x := (b.length : Int) - ((a + 1 + m : Nat) : Int)) (by omega) (by omega)]
        by_cases hlen : 1 + m + n + 4 > (b.drop a).length
        · simp only [if_pos (show (n : Int) + 4 > (b.length : Int) - ((a + 1 + m : Nat) : Int) by omega), if_pos hlen]
          rw [secR_err _ _ (by omega)]
          exact Ev.now _
        · have hb1 : a + 1 + m + n ≤ 100000000 := by omega
          simp only [wp2 (a + 1 + m) n hb1, wp4 (a + 1 + m + n) hb1, wm4 (a + 1 + m + n) hb1, if_neg (show ¬ ((n : Int) + 4 > (b.length : Int) - ((a + 1 + m : Nat) : Int)) by omega), if_neg hlen, if_pos (show (0 : Int) ≤ (a : Int) by omega), if_pos (show (a : Int) ≤ ((a + 1 + m + n + 4 : Nat) : Int) by omega), if_pos (show ((a + 1 + m + n + 4 : Nat) : Int) ≤ (b.length : Int) by omega), Int.toNat_natCast]
          have et : (b.take (a + 1 + m + n + 4)).drop a = (b.drop a).take (1 + m + n + 4) := by
            rw [List.drop_take]
            congr 1
            omega
          have et2 : (b.take (a + 1 + m + n)).drop (a + 1 + m) = ((b.drop a).take (1 + m + n)).drop (1 + m) := by
            rw [List.drop_take, List.drop_take, List.drop_drop, show a + 1 + m + n - (a + 1 + m) = 1 + m + n - (1 + m) by omega, show a + 1 + m = a + (1 + m) by omega]
          rw [et]
          have hck := check_ev ((b.drop a).take (1 + m + n + 4)) (fun c hc => h c (List.mem_of_mem_drop (List.mem_of_mem_take hc))) (by rw [List.length_take]; omega)
          refine Ev.bind hck ?_
          have hlt : (((b.drop a).take (1 + m + n)).drop (1 + m)).length < 140737488355328 := by rw [List.length_drop, List.length_take]; omega
          clear hck et
          generalize chkV ((b.drop a).take (1 + m + n + 4)) = r
          by_cases hr0 : r.2 = 0
          · simp only [if_pos hr0, if_true, if_pos (show (0 : Int) ≤ ((a + 1 + m : Nat) : Int) by omega), if_pos (show ((a + 1 + m : Nat) : Int) ≤ ((a + 1 + m + n : Nat) : Int) by omega), if_pos (show ((a + 1 + m + n : Nat) : Int) ≤ (b.length : Int) by omega), List.length_nil, et2, Nat.zero_add, List.nil_append, if_pos hlt]
            rw [secR_ok, show a + 1 + m + n + 4 = a + (1 + m + n + 4) by omega]
            exact Ev.now _
          · simp only [if_neg hr0]
            rw [secR_err _ _ hr0]
            exact Ev.now _
    · unfold secT
      rw [gR_err _ _ _ _ he0] at hg
      refine Ev.bind hg ?_
      simp only [if_neg he0, ne_eq, he0, not_false_eq_true, if_true]
      rw [secR_err _ _ he0]
      exact Ev.now _
theorem sec_ev (b : List Int) (h : ∀ c ∈ b, 0 ≤ c ∧ c ≤ 255) (hl : b.length ≤ 1048576) (a : Nat) (ha : a ≤ b.length) (q : Int) :
    Ev (fun k => frame_section.f k b (a : Int) q) (secR a (secV (b.drop a) q)) := by
  unfold frame_section.f
  by_cases he : a = b.length
  · simp only [if_pos (show (a : Int) = (b.length : Int) by omega)]
    rw [List.drop_eq_nil_of_le (by omega)]
    exact Ev.now _
  · have hil : a < b.length := by omega
    have hcN := cN_lt b h a
    have hr := rdN b h a hil
    have hdl : ((cN b a : Int) :: b.drop (a + 1)) = b.drop a := by rw [← getN b h a hil, ← List.drop_eq_getElem_cons hil]
    have hsv := secV_cons (cN b a : Int) (b.drop (a + 1)) q
    rw [hdl] at hsv
    simp only [if_neg (show ¬ ((a : Int) = (b.length : Int)) by omega), if_pos (show (0 : Int) ≤ (a : Int) by omega), if_pos (show (a : Int) < (b.length : Int) by omega), hr, w64 (x := ((cN b a : Nat) : Int)) (by omega) (by omega), hsv]
    clear hsv hdl hr
    generalize cN b a = c at *
    by_cases h0 : c = 0
    · simp only [if_pos (show (c : Int) = 0 by omega), nx a (by omega)]
      exact Ev.now _
    · simp only [if_neg (show ¬ ((c : Int) = 0) by omega)]
      by_cases hq : (c : Int) ≤ q
      · simp only [if_pos hq]
        exact sec_j0 b h hl a hil c q true (decide_eq_true (.inl hq)).symm
      · simp only [if_neg hq]
        refine sec_j0 b h hl a hil c q _ ?_
        rw [Bool.eq_iff_iff, decide_eq_true_eq, decide_eq_true_eq]
        omega

def decV : Nat → List Int → Int → List S48 → List S48 × Int
  | 0, _, _, _ => ([], 10)
  | f + 1, l, q, out => if (secV l q).2.2.2 ≠ 0 then ([], (secV l q).2.2.2) else if (secV l q).1 = 0 then (if (secV l q).2.2.1 < l.length then ([], 11) else (out, 0)) else decV f (l.drop (secV l q).2.2.1) (secV l q).1 (out ++ [⟨(secV l q).1, (secV l q).2.1⟩])
theorem secV_len (l : List Int) (q : Int) (h : (secV l q).2.2.2 = 0) : 1 ≤ (secV l q).2.2.1 ∧ (secV l q).2.2.1 ≤ l.length := by
  match l with
  | [] => simp [secV] at h
  | c :: cs =>
    unfold secV at h ⊢
    by_cases h0 : c = 0
    · simp only [if_pos h0]; simp
    · simp only [if_neg h0] at h ⊢
      by_cases hq : c ≤ q ∨ c > 9
      · simp only [if_pos hq] at h; exact absurd h (by omega)
      · simp only [if_neg hq] at h ⊢
        unfold secT at h ⊢
        by_cases h1 : (gv cs 0 0).2.2 ≠ 0
        · simp only [if_pos h1] at h; exact absurd h h1
        · simp only [if_neg h1] at h ⊢
          by_cases h2 : (gv cs 0 0).1 > 1048576
          · simp only [if_pos h2] at h; exact absurd h (by omega)
          · simp only [if_neg h2] at h ⊢
            by_cases h3 : 1 + (gv cs 0 0).2.1 + (gv cs 0 0).1 + 4 > (c :: cs).length
            · simp only [if_pos h3] at h; exact absurd h (by omega)
            · simp only [if_neg h3] at h ⊢
              by_cases h4 : (chkV ((c :: cs).take (1 + (gv cs 0 0).2.1 + (gv cs 0 0).1 + 4))).2 = 0
              · simp only [if_pos h4]; omega
              · simp only [if_neg h4] at h; exact absurd h h4
theorem dec_l0 (b : List Int) (h : ∀ c ∈ b, 0 ≤ c ∧ c ≤ 255) (hl : b.length ≤ 1048576) : ∀ (f a : Nat) (q : Int) (out : List S48), a ≤ b.length → b.length - a < f → out.length ≤ a →
    Ev (fun k => frame_Decode.l0 k b out (a : Int) q) (decV f (b.drop a) q out) := by
  intro f
  induction f with
  | zero => intro a q out ha hf; omega
  | succ f ih =>
    intro a q out ha hf ho
    refine Ev.step (fun k => frame_Decode.l0.eq_2 _ _ _ _ _) ?_
    refine Ev.bind (sec_ev b h hl a ha q) ?_
    rw [decV]
    have hlen := secV_len (b.drop a) q
    have hdl : (b.drop a).length = b.length - a := List.length_drop
    generalize hr : secV (b.drop a) q = r at *
    clear hr
    obtain ⟨k', B, n, e⟩ := r
    simp only [secR] at hlen ⊢
    by_cases he : e = 0
    · subst he
      have hn := hlen rfl
      rw [hdl] at hn
      simp only [if_true, ne_eq, not_true_eq_false, if_false]
      by_cases hk : k' = 0
      · simp only [if_pos hk, hdl]
        by_cases hx : n < b.length - a
        · simp only [if_pos hx, if_pos (show ((a + n : Nat) : Int) < (b.length : Int) by omega)]
          exact Ev.now _
        · simp only [if_neg hx, if_neg (show ¬ (((a + n : Nat) : Int) < (b.length : Int)) by omega), if_neg (show ¬ (((a + n : Nat) : Int) > 1048576) by omega)]
          exact Ev.now _
      · simp only [if_neg hk, if_pos (show out.length < 4398046511104 by omega), List.drop_drop]
        exact ih (a + n) k' _ (by omega) (by omega) (by rw [List.length_append]; show out.length + 1 ≤ _; omega)
    · simp only [if_neg he, ne_eq, he, not_false_eq_true, if_true]
      exact Ev.now _
def hdL : List Int → List Int → Int
  | [], _ => 0
  | _ :: _, [] => 10
  | c :: cs, x :: xs => if x = c then hdL cs xs else 11
theorem hd_at' (b : List Int) (h : ∀ c ∈ b, 0 ≤ c ∧ c ≤ 255) : ∀ (cs : List Int) (i : Nat), i ≤ b.length → frame_Decode.hdAt b cs i = hdL cs (b.drop i)
  | [], i, hi => by cases b.drop i <;> rfl
  | c :: cs, i, hi => by
    rw [frame_Decode.hdAt]
    by_cases he : i = b.length
    · rw [if_pos he, List.drop_eq_nil_of_le (by omega)]
      rfl
    · rw [if_neg he, List.drop_eq_getElem_cons (show i < b.length by omega), rdN b h i (by omega), ← getN b h i (by omega), hd_at' b h cs (i + 1) (by omega), hdL]
def decW (b : List Int) : List S48 × Int := if hdL hdB b = 0 then decV (b.length + 1) (b.drop 5) 0 [] else ([], hdL hdB b)
theorem hdL_len : ∀ (cs l : List Int), hdL cs l = 0 → cs.length ≤ l.length
  | [], l, _ => by simp
  | c :: cs, [], h => by simp [hdL] at h
  | c :: cs, x :: xs, h => by
    rw [hdL] at h
    split at h
    · have := hdL_len cs xs h
      simp only [List.length_cons]
      omega
    · omega
theorem dec_ev (b : List Int) (h : ∀ c ∈ b, 0 ≤ c ∧ c ≤ 255) (hl : b.length ≤ 1048576) : Ev (fun k => frame_Decode.f k b) (decW b) := by
  unfold frame_Decode.f decW frame_Decode.hd
  have e : frame_Decode.hdAt b [76, 80, 68, 89, 1] 0 = hdL hdB b := by
    rw [hd_at' b h _ 0 (Nat.zero_le _), List.drop_zero]
    rfl
  rw [e]
  by_cases h0 : hdL hdB b = 0
  · simp only [if_pos h0]
    have h5 : 5 ≤ b.length := hdL_len hdB b h0
    have := dec_l0 b h hl (b.length + 1) 5 0 [] h5 (by omega) (Nat.zero_le _)
    exact this
  · simp only [if_neg h0]
    exact Ev.now _
end Go.Proofs.Ytglmfnaofpbpfaa.Fv

namespace Go.Proofs.Ytglmfnaofpbpfaa.Fv
set_option linter.unusedVariables false
set_option linter.unusedSimpArgs false
open Go.RowKit Go.Proofs.Ytglmfnaofpbpfaa.P Go.Proofs.Ytglmfnaofpbpfaa.C Go.Proofs.YtglmfnaofpbpfaaW.PrintWords Go.Proofs.YtglmfnaofpbpfaaW.PrintLast Go.Proofs.YtglmfnaofpbpfaaW.PrintMore

theorem bytes4_len (T : Int) : (bytes4 T).length = 4 := rfl
theorem secT_ok (c : Int) (l : List Int) (n m : Nat) (hn : n ≤ 1048576) (hl : 1 + m + n + 4 ≤ l.length) (r : List Int) (hc : chkV (l.take (1 + m + n + 4)) = (r, 0)) : secT c l (n, m, 0) = (c, (l.take (1 + m + n)).drop (1 + m), 1 + m + n + 4, 0) := by
  unfold secT
  rw [if_neg (by simp), if_neg (by simpa using hn), if_neg (by simpa using hl)]
  simp only [hc, if_true]
theorem secT_short (c : Int) (l : List Int) (n m : Nat) (hn : n ≤ 1048576) (hl : l.length < 1 + m + n + 4) : secT c l (n, m, 0) = (0, [], 0, 10) := by
  unfold secT
  rw [if_neg (by simp), if_neg (by simpa using hn), if_pos (by simpa using hl)]
theorem secT_err (c : Int) (l : List Int) (n m : Nat) (e : Int) (he : e ≠ 0) : secT c l (n, m, e) = (0, [], 0, e) := by
  unfold secT
  rw [if_pos he]

theorem secB_cons (k : Int) (B r : List Int) : secB k B ++ r = k :: (putN B.length ++ (B ++ (bytes4 (ofV [[k] ++ putN B.length ++ B]) ++ r))) := by
  unfold secB
  simp only [List.append_assoc, List.singleton_append, List.cons_append, List.nil_append]
theorem sec_secB (k : Int) (B r : List Int) (q : Int) (hk : 1 ≤ k ∧ k ≤ 9 ∧ q < k) (hB : ∀ c ∈ B, 0 ≤ c ∧ c ≤ 255) (hl : B.length ≤ 1900) : secV (secB k B ++ r) q = (k, B, (secB k B).length, 0) := by
  have hsl := secB_len k B
  have hcons := secB_cons k B r
  have hg := gv_put B.length (by omega) (B ++ (bytes4 (ofV [[k] ++ putN B.length ++ B]) ++ r))
  have hck := chk_seal ([k] ++ putN B.length ++ B) (pre_wf k B (by omega) hB (by omega))
  have ht1 : (secB k B ++ r).take (1 + (putN B.length).length + B.length + 4) = secB k B := by
    rw [← hsl]
    exact List.take_left
  have ht2 : ((secB k B ++ r).take (1 + (putN B.length).length + B.length)).drop (1 + (putN B.length).length) = B := by
    have e1 : secB k B ++ r = ([k] ++ putN B.length ++ B) ++ (bytes4 (ofV [[k] ++ putN B.length ++ B]) ++ r) := by unfold secB; rw [List.append_assoc]
    have e2 : 1 + (putN B.length).length + B.length = ([k] ++ putN B.length ++ B).length := by rw [List.length_append, List.length_append, one_len]
    have e3 : 1 + (putN B.length).length = ([k] ++ putN B.length).length := by rw [List.length_append, one_len]
    rw [e1, e2, List.take_left, e3]
    exact List.drop_left
  have hs := secT_ok k (secB k B ++ r) B.length (putN B.length).length (by omega) (by rw [List.length_append, hsl]; omega) ([k] ++ putN B.length ++ B) (by rw [ht1]; exact hck)
  rw [ht2, ← hsl] at hs
  rw [hcons] at hs ⊢
  rw [secV_cons, if_neg (by omega), if_neg (by omega), hg]
  exact hs
theorem sec_cut (k : Int) (B r : List Int) (q : Int) (hk : 1 ≤ k ∧ k ≤ 9 ∧ q < k) (hl : B.length ≤ 1900) (m : Nat) (hm : m < (secB k B).length) : (secV ((secB k B ++ r).take m) q).2.2.2 = 10 := by
  rw [secB_len] at hm
  rw [secB_cons]
  match m, hm with
  | 0, _ => rfl
  | m + 1, hm =>
    rw [List.take_succ_cons, secV_cons, if_neg (by omega), if_neg (by omega)]
    have hg := gv_put B.length (by omega) (B ++ (bytes4 (ofV [[k] ++ putN B.length ++ B]) ++ r))
    by_cases hp : m < (putN B.length).length
    · have h10 := gv_take (putN B.length ++ (B ++ (bytes4 (ofV [[k] ++ putN B.length ++ B]) ++ r))) 0 0 m (.inl (by rw [hg]; simpa using hp))
      generalize gv ((putN B.length ++ (B ++ (bytes4 (ofV [[k] ++ putN B.length ++ B]) ++ r))).take m) 0 0 = g at *
      obtain ⟨n', m', e⟩ := g
      simp only at h10
      subst h10
      rw [secT_err _ _ _ _ _ (by omega)]
    · rw [List.take_append, List.take_of_length_le (by omega), gv_put _ (by omega)]
      rw [secT_short _ _ _ _ (by omega) (by simp only [List.length_cons, List.length_append, List.length_take]; omega)]

theorem decV_end (f : Nat) (q : Int) (out : List S48) (tail : List Int) : decV (f + 1) (0 :: tail) q out = if tail = [] then (out, 0) else ([], 11) := by
  rw [decV, secV_cons]
  simp only [if_true, ne_eq, not_true_eq_false, if_false, List.length_cons]
  cases tail with
  | nil => rfl
  | cons c cs => simp
theorem decV_ok (f : Nat) (l : List Int) (q k : Int) (B : List Int) (n : Nat) (out : List S48) (hs : secV l q = (k, B, n, 0)) (hk : k ≠ 0) : decV (f + 1) l q out = decV f (l.drop n) k (out ++ [⟨k, B⟩]) := by
  rw [decV, hs]
  simp only [ne_eq, not_true_eq_false, if_false, if_neg hk]
theorem decV_err (f : Nat) (l : List Int) (q : Int) (out : List S48) (h : (secV l q).2.2.2 ≠ 0) : decV (f + 1) l q out = ([], (secV l q).2.2.2) := by
  rw [decV, if_pos h]
theorem dec_body : ∀ (l : List S48) (q : Int) (out : List S48) (tail : List Int) (f : Nat), okL q l = true → (∀ s ∈ l, wfS s) → l.length < f → decV f (bodyL l ++ (0 :: tail)) q out = if tail = [] then (out ++ l, 0) else ([], 11)
  | [], q, out, tail, f + 1, _, _, _ => by
    rw [bodyL, List.nil_append, decV_end, List.append_nil]
  | s :: l, q, out, tail, f + 1, ho, hw, hf => by
    simp only [okL, Bool.and_eq_true, decide_eq_true_eq] at ho
    have hs := hw s (List.mem_cons_self)
    rw [bodyL, List.append_assoc, decV_ok f _ q s.f0 s.f1 _ out (sec_secB s.f0 s.f1 _ q ho.1 hs.1 hs.2) (by omega), List.drop_left,
      dec_body l s.f0 _ tail f ho.2 (fun x hx => hw x (List.mem_cons_of_mem _ hx)) (by simp only [List.length_cons] at hf; omega), List.append_assoc]
    rfl
theorem dec_cut : ∀ (l : List S48) (q : Int) (out : List S48) (m f : Nat), okL q l = true → (∀ s ∈ l, wfS s) → m < (bodyL l ++ [0]).length → m < f → (decV f ((bodyL l ++ [0]).take m) q out).2 = 10
  | [], q, out, m, f + 1, _, _, hm, _ => by
    have h0 : m = 0 := by simp only [bodyL, List.nil_append, one_len] at hm; omega
    subst h0
    rfl
  | s :: l, q, out, m, f + 1, ho, hw, hm, hf => by
    simp only [okL, Bool.and_eq_true, decide_eq_true_eq] at ho
    have hs := hw s (List.mem_cons_self)
    rw [bodyL, List.append_assoc] at hm ⊢
    by_cases hc : m < (secB s.f0 s.f1).length
    · have h10 := sec_cut s.f0 s.f1 (bodyL l ++ [0]) q ho.1 hs.2 m hc
      rw [decV_err _ _ _ _ (by rw [h10]; omega)]
      exact h10
    · rw [List.take_append, List.take_of_length_le (by omega), decV_ok f _ q s.f0 s.f1 _ out (sec_secB s.f0 s.f1 _ q ho.1 hs.1 hs.2) (by omega), List.drop_left]
      have hsp := secB_pos s.f0 s.f1
      refine dec_cut l s.f0 _ _ f ho.2 (fun x hx => hw x (List.mem_cons_of_mem _ hx)) ?_ (by omega)
      rw [List.length_append] at hm
      omega
theorem hdL_self : ∀ (cs r : List Int), hdL cs (cs ++ r) = 0
  | [], r => by cases r <;> rfl
  | c :: cs, r => by rw [List.cons_append, hdL, if_pos rfl]; exact hdL_self cs r
theorem hdL_cut : ∀ (cs r : List Int) (m : Nat), m < cs.length → hdL cs ((cs ++ r).take m) = 10
  | [], r, m, h => by simp at h
  | c :: cs, r, 0, h => rfl
  | c :: cs, r, m + 1, h => by
    rw [List.cons_append, List.take_succ_cons, hdL, if_pos rfl]
    exact hdL_cut cs r m (by simp only [List.length_cons] at h; omega)
theorem hdL_inv : ∀ (cs l : List Int), hdL cs l = 0 → l = cs ++ l.drop cs.length
  | [], l, _ => rfl
  | c :: cs, [], h => by simp [hdL] at h
  | c :: cs, x :: xs, h => by
    rw [hdL] at h
    split at h
    · rename_i he
      have := hdL_inv cs xs h
      rw [List.length_cons, List.drop_succ_cons, List.cons_append, ← this, he]
    · omega
theorem len_body : ∀ l : List S48, l.length ≤ (bodyL l).length
  | [] => Nat.le_refl _
  | s :: l => by
    have := len_body l
    have := secB_pos s.f0 s.f1
    simp only [bodyL, List.length_append, List.length_cons]
    omega
theorem hdB_len : hdB.length = 5 := rfl
/-- The bytes of sections that may be. -/
def encB (l : List S48) : List Int := hdB ++ bodyL l ++ [0]
theorem encB_eq (l : List S48) : encB l = hdB ++ (bodyL l ++ [0]) := by unfold encB; rw [List.append_assoc]
theorem dec_enc (l : List S48) (ho : okL 0 l = true) (hw : ∀ s ∈ l, wfS s) : decW (encB l) = (l, 0) := by
  unfold decW
  rw [encB_eq, if_pos (hdL_self _ _)]
  have := dec_body l 0 [] [] ((hdB ++ (bodyL l ++ [0])).length + 1) ho hw (by have := len_body l; simp only [List.length_append]; omega)
  rw [if_pos rfl, List.nil_append] at this
  exact this
theorem dec_more (l : List S48) (ho : okL 0 l = true) (hw : ∀ s ∈ l, wfS s) (c : Int) : decW (encB l ++ [c]) = ([], 11) := by
  unfold decW
  rw [encB_eq, List.append_assoc, List.append_assoc, if_pos (hdL_self _ _)]
  have := dec_body l 0 [] [c] ((hdB ++ (bodyL l ++ ([0] ++ [c]))).length + 1) ho hw (by have := len_body l; simp only [List.length_append]; omega)
  rw [if_neg (by simp)] at this
  exact this
theorem dec_less (l : List S48) (ho : okL 0 l = true) (hw : ∀ s ∈ l, wfS s) (m : Nat) (hm : m < (encB l).length) : (decW ((encB l).take m)).2 = 10 := by
  rw [encB_eq] at hm ⊢
  unfold decW
  by_cases h5 : m < hdB.length
  · rw [hdL_cut hdB _ m h5, if_neg (by omega)]
  · have e : (hdB ++ (bodyL l ++ [0])).take m = hdB ++ (bodyL l ++ [0]).take (m - 5) := by
      rw [List.take_append, List.take_of_length_le (by omega), hdB_len]
    rw [e, if_pos (hdL_self _ _)]
    rw [List.length_append] at hm
    have hb := hdB_len
    exact dec_cut l 0 [] (m - 5) _ ho hw (by omega) (by rw [List.length_append, List.length_take]; omega)

theorem chk_inv (s : List Int) (h : ∀ c ∈ s, 0 ≤ c ∧ c ≤ 255) (i : Nat) (hi : i + 4 = s.length) (hc : (chkV s).2 = 0) : s = s.take i ++ bytes4 (ofV [s.take i]) := by
  unfold chkV at hc
  rw [if_neg (by omega), show s.length - 4 = i by omega] at hc
  have hr := ofV_range (s.take i) (fun c hc => h c (List.mem_of_mem_take hc))
  by_cases hk : (le4 s i : Int) = ofV [s.take i]
  · exact ((seal_iff s h i hi _ hr.1 hr.2).2 hk).symm
  · rw [if_neg hk] at hc
    simp at hc
theorem sec_inv (l : List Int) (h : ∀ c ∈ l, 0 ≤ c ∧ c ≤ 255) (hl : l.length ≤ 1900) (q k : Int) (B : List Int) (n : Nat) (hs : secV l q = (k, B, n, 0)) :
    (k = 0 ∧ n = 1 ∧ ∃ cs, l = 0 :: cs) ∨ ((1 ≤ k ∧ k ≤ 9 ∧ q < k) ∧ (∀ c ∈ B, 0 ≤ c ∧ c ≤ 255) ∧ B.length ≤ 1900 ∧ l = secB k B ++ l.drop n ∧ 1 ≤ n) := by
  match l, h, hl, hs with
  | [], _, _, hs => simp [secV] at hs
  | c :: cs, h, hl, hs =>
    have hc := h c (List.mem_cons_self)
    rw [secV_cons] at hs
    by_cases h0 : c = 0
    · rw [if_pos h0] at hs
      simp only [Prod.mk.injEq] at hs
      exact .inl ⟨hs.1.symm, hs.2.2.1.symm, cs, by rw [h0]⟩
    · rw [if_neg h0] at hs
      by_cases hq : c ≤ q ∨ c > 9
      · rw [if_pos hq] at hs
        simp at hs
      · rw [if_neg hq] at hs
        right
        have hgl := gv_len cs 0 0
        generalize hg : gv cs 0 0 = g at *
        obtain ⟨n', m, e⟩ := g
        by_cases he : e = 0
        · subst he
          have hm := hgl (by show (0 : Int) ≠ 10; omega)
          simp only at hm
          clear hgl
          unfold secT at hs
          simp only [ne_eq, not_true_eq_false, if_false] at hs
          by_cases hn : n' > 1048576
          · rw [if_pos hn] at hs; simp at hs
          · rw [if_neg hn] at hs
            by_cases hlen : 1 + m + n' + 4 > (c :: cs).length
            · rw [if_pos hlen] at hs; simp at hs
            · rw [if_neg hlen] at hs
              by_cases hck : (chkV ((c :: cs).take (1 + m + n' + 4))).2 = 0
              · rw [if_pos hck] at hs
                simp only [Prod.mk.injEq, and_true] at hs
                obtain ⟨rfl, hB, rfl⟩ := hs
                have hp := put_gv cs (fun x hx => h x (List.mem_cons_of_mem _ hx)) n' m hg (by omega)
                have hsl : ((c :: cs).take (1 + m + n' + 4)).length = 1 + m + n' + 4 := by rw [List.length_take]; omega
                have hci := chk_inv _ (fun x hx => h x (List.mem_of_mem_take hx)) (1 + m + n') (by rw [hsl]) hck
                have htt : ((c :: cs).take (1 + m + n' + 4)).take (1 + m + n') = (c :: cs).take (1 + m + n') := by rw [List.take_take]; congr 1; omega
                rw [htt] at hci
                have hBl : B.length = n' := by rw [← hB, List.length_drop, List.length_take]; omega
                have hpre : (c :: cs).take (1 + m + n') = [c] ++ putN B.length ++ B := by
                  rw [← List.take_append_drop (1 + m) ((c :: cs).take (1 + m + n')), hB, List.take_take, show min (1 + m) (1 + m + n') = m + 1 by omega, List.take_succ_cons, hp, hBl]
                  rfl
                refine ⟨⟨by omega, by omega, by omega⟩, ?_, by omega, ?_, by omega⟩
                · intro x hx
                  rw [← hB] at hx
                  exact h x (List.mem_of_mem_take (List.mem_of_mem_drop hx))
                · conv => lhs; rw [← List.take_append_drop (1 + m + n' + 4) (c :: cs), hci, hpre]
                  rfl
              · rw [if_neg hck] at hs
                simp only [Prod.mk.injEq] at hs
                exact absurd hs.2.2.2 hck
        · rw [secT_err _ _ _ _ _ he] at hs
          simp only [Prod.mk.injEq] at hs
          exact absurd hs.2.2.2 he
theorem dec_inv : ∀ (f : Nat) (l : List Int) (q : Int) (out r : List S48), (∀ c ∈ l, 0 ≤ c ∧ c ≤ 255) → l.length ≤ 1900 → decV f l q out = (r, 0) → ∃ l' : List S48, r = out ++ l' ∧ okL q l' = true ∧ (∀ s ∈ l', wfS s) ∧ l = bodyL l' ++ [0]
  | 0, l, q, out, r, _, _, h => by simp [decV] at h
  | f + 1, l, q, out, r, hw, hl, h => by
    by_cases he : (secV l q).2.2.2 = 0
    · obtain ⟨k, B, n, hs⟩ : ∃ k B n, secV l q = (k, B, n, 0) := ⟨(secV l q).1, (secV l q).2.1, (secV l q).2.2.1, by rw [← he]⟩
      rcases sec_inv l hw hl q k B n hs with ⟨rfl, rfl, cs, rfl⟩ | ⟨hk, hB, hBl, hlx, hn⟩
      · rw [decV_end] at h
        by_cases hcs : cs = []
        · rw [if_pos hcs] at h
          simp only [Prod.mk.injEq, and_true] at h
          exact ⟨[], by rw [List.append_nil]; exact h.symm, rfl, by simp, by rw [hcs]; rfl⟩
        · rw [if_neg hcs] at h
          simp at h
      · rw [decV_ok f l q k B n out hs (by omega)] at h
        obtain ⟨l', hr, ho, hw', hd⟩ := dec_inv f (l.drop n) k _ r (fun c hc => hw c (List.mem_of_mem_drop hc)) (by rw [List.length_drop]; omega) h
        refine ⟨⟨k, B⟩ :: l', by rw [hr, List.append_assoc]; rfl, ?_, ?_, ?_⟩
        · simp only [okL, Bool.and_eq_true, decide_eq_true_eq]
          exact ⟨hk, ho⟩
        · intro s hs'
          rcases List.mem_cons.1 hs' with rfl | hs'
          · exact ⟨hB, hBl⟩
          · exact hw' s hs'
        · rw [hlx, hd]
          simp only [bodyL, List.append_assoc]
    · rw [decV_err _ _ _ _ he] at h
      simp only [Prod.mk.injEq] at h
      exact absurd h.2 he
theorem decW_inv (b : List Int) (h : ∀ c ∈ b, 0 ≤ c ∧ c ≤ 255) (hl : b.length ≤ 1900) (r : List S48) (hd : decW b = (r, 0)) : okL 0 r = true ∧ (∀ s ∈ r, wfS s) ∧ b = encB r := by
  unfold decW at hd
  by_cases h0 : hdL hdB b = 0
  · rw [if_pos h0] at hd
    obtain ⟨l', hr, ho, hw, hb⟩ := dec_inv _ _ _ _ _ (fun c hc => h c (List.mem_of_mem_drop hc)) (by rw [List.length_drop]; omega) hd
    rw [List.nil_append] at hr
    subst hr
    refine ⟨ho, hw, ?_⟩
    have := hdL_inv hdB b h0
    rw [this, hdB_len, hb, encB_eq]
  · rw [if_neg h0] at hd
    simp only [Prod.mk.injEq] at hd
    exact absurd hd.2 h0
theorem decV_nil : ∀ (f : Nat) (l : List Int) (q : Int) (out : List S48), (decV f l q out).2 ≠ 0 → (decV f l q out).1 = []
  | 0, _, _, _, _ => rfl
  | f + 1, l, q, out, h => by
    rw [decV] at h ⊢
    by_cases h1 : (secV l q).2.2.2 ≠ 0
    · rw [if_pos h1]
    · rw [if_neg h1] at h ⊢
      by_cases h2 : (secV l q).1 = 0
      · rw [if_pos h2] at h ⊢
        by_cases h3 : (secV l q).2.2.1 < l.length
        · rw [if_pos h3]
        · rw [if_neg h3] at h; exact absurd rfl h
      · rw [if_neg h2] at h ⊢
        exact decV_nil f _ _ _ h
theorem decW_nil (b : List Int) (h : (decW b).2 ≠ 0) : (decW b).1 = [] := by
  unfold decW at h ⊢
  by_cases h0 : hdL hdB b = 0
  · rw [if_pos h0] at h ⊢
    exact decV_nil _ _ _ _ h
  · rw [if_neg h0]
end Go.Proofs.Ytglmfnaofpbpfaa.Fv

namespace Go.Proofs.Ytglmfnaofpbpfaa.Fv
set_option linter.unusedVariables false
set_option linter.unusedSimpArgs false
open Go.RowKit Go.Proofs.Ytglmfnaofpbpfaa.P Go.Proofs.Ytglmfnaofpbpfaa.C Go.Proofs.YtglmfnaofpbpfaaW.PrintWords Go.Proofs.YtglmfnaofpbpfaaW.PrintLast Go.Proofs.YtglmfnaofpbpfaaW.PrintMore

structure M where
  took : List Int
  last : Int
  fin : Bool
  all : Nat
  L : List S48
  e : Int

def nextM (q : Int) (L : List S48) (a : Nat) (t : List Int) : M :=
  if (gv (t.drop 1) 0 0).2.2 = 10 then ⟨t, q, false, a, L, 0⟩
  else if (gv (t.drop 1) 0 0).2.2 ≠ 0 then ⟨t, q, false, a, L, (gv (t.drop 1) 0 0).2.2⟩
  else if (gv (t.drop 1) 0 0).1 > 1048576 then ⟨t, q, false, a, L, 3⟩
  else if t.length < 1 + (gv (t.drop 1) 0 0).2.1 + (gv (t.drop 1) 0 0).1 + 4 then ⟨t, q, false, a, L, 0⟩
  else if (chkV t).2 = 0 then ⟨[], t.getD 0 0, false, a, L ++ [⟨t.getD 0 0, (chkV t).1.drop (1 + (gv (t.drop 1) 0 0).2.1)⟩], 0⟩
  else ⟨t, q, false, a, L, (chkV t).2⟩
def stepM (s : M) (c : Int) : M :=
  if s.e = 0 then
    if s.fin = true then ⟨s.took, s.last, s.fin, s.all + 1, s.L, 11⟩
    else if s.all < 5 then (if c = hdB.getD s.all 0 then ⟨s.took, s.last, s.fin, s.all + 1, s.L, 0⟩ else ⟨s.took, s.last, s.fin, s.all + 1, s.L, 11⟩)
    else if s.took = [] then (if c = 0 then ⟨[c], s.last, true, s.all + 1, s.L, 0⟩ else if c ≤ s.last ∨ c > 9 then ⟨[c], s.last, false, s.all + 1, s.L, 11⟩ else ⟨[c], s.last, false, s.all + 1, s.L, 0⟩)
    else nextM s.last s.L (s.all + 1) (s.took ++ [c])
  else s
def closeV (s : M) : List S48 × Int := if s.e = 0 then (if s.fin = true then (s.L, 0) else ([], 10)) else ([], s.e)

/-! ### Pure: the machine tells what is read at once -/
theorem gv_at : ∀ (l : List Int) (i n m : Nat), (gv l i n).2.2 ≠ 10 → (gv l i n).2.1 ≤ i + m → gv (l.take m) i n = gv l i n
  | [], i, n, m, h, _ => absurd rfl h
  | c :: cs, i, n, 0, h, hm => by
    have := gv_len (c :: cs) i n h
    omega
  | c :: cs, i, n, m + 1, h, hm => by
    rw [List.take_succ_cons, gv_cases, gv_cases]
    rw [gv_cases] at h hm
    by_cases h1 : 9 < i ∨ i = 9 ∧ 1 < c
    · rw [if_pos h1, if_pos h1]
    · rw [if_neg h1] at h hm ⊢
      rw [if_neg h1]
      by_cases h2 : c < 128
      · rw [if_pos h2, if_pos h2]
      · rw [if_neg h2] at h hm ⊢
        rw [if_neg h2]
        exact gv_at cs _ _ m h (by omega)
theorem err_stay (s : M) (h : s.e ≠ 0) : ∀ l : List Int, l.foldl stepM s = s
  | [] => rfl
  | c :: cs => by
    rw [List.foldl_cons, show stepM s c = s from if_neg h]
    exact err_stay s h cs
theorem close_err (s : M) (h : s.e ≠ 0) (l : List Int) : closeV (l.foldl stepM s) = ([], s.e) := by
  rw [err_stay s h l]
  exact if_neg h
theorem step_in (q : Int) (L : List S48) (a : Nat) (t : List Int) (c : Int) (ha : 5 ≤ a) (ht : t ≠ []) : stepM ⟨t, q, false, a, L, 0⟩ c = nextM q L (a + 1) (t ++ [c]) := by
  unfold stepM
  rw [if_pos rfl, if_neg (by simp), if_neg (by show ¬ a < 5; omega), if_neg ht]
theorem run_more (q : Int) (L : List S48) (c : Int) (cs : List Int) (a : Nat) (ha : 5 ≤ a) : ∀ N : Nat, N ≤ cs.length → (∀ j, 1 ≤ j → j ≤ N → nextM q L (a + j) (c :: cs.take j) = ⟨c :: cs.take j, q, false, a + j, L, 0⟩) →
    (cs.take N).foldl stepM ⟨[c], q, false, a, L, 0⟩ = ⟨c :: cs.take N, q, false, a + N, L, 0⟩
  | 0, _, _ => rfl
  | N + 1, hN, h => by
    have e : cs.take (N + 1) = cs.take N ++ [cs[N]] := by rw [List.take_add_one, List.getElem?_eq_getElem (by omega)]; rfl
    rw [e, List.foldl_append, run_more q L c cs a ha N (by omega) (fun j h1 h2 => h j h1 (by omega)), List.foldl_cons, List.foldl_nil, step_in _ _ _ _ _ (by omega) (by simp)]
    have := h (N + 1) (by omega) (by omega)
    rw [e] at this
    exact this
/-- One byte more decides. -/
theorem run_last (q : Int) (L : List S48) (c : Int) (cs : List Int) (a : Nat) (ha : 5 ≤ a) (N : Nat) (hN : N < cs.length) (h : ∀ j, 1 ≤ j → j ≤ N → nextM q L (a + j) (c :: cs.take j) = ⟨c :: cs.take j, q, false, a + j, L, 0⟩) :
    cs.foldl stepM ⟨[c], q, false, a, L, 0⟩ = (cs.drop (N + 1)).foldl stepM (nextM q L (a + (N + 1)) (c :: cs.take (N + 1))) := by
  have e : cs.take (N + 1) = cs.take N ++ [cs[N]] := by rw [List.take_add_one, List.getElem?_eq_getElem hN]; rfl
  conv => lhs; rw [← List.take_append_drop (N + 1) cs, e]
  rw [List.foldl_append, List.foldl_append, run_more q L c cs a ha N (by omega) h, List.foldl_cons, List.foldl_nil, step_in _ _ _ _ _ (by omega) (by simp), e]
  rfl
theorem next_short (q : Int) (L : List S48) (a : Nat) (c : Int) (u : List Int) (h : (gv u 0 0).2.2 = 10) : nextM q L a (c :: u) = ⟨c :: u, q, false, a, L, 0⟩ := by
  unfold nextM
  rw [List.drop_succ_cons, List.drop_zero, if_pos h]
theorem next_err (q : Int) (L : List S48) (a : Nat) (c : Int) (u : List Int) (n m : Nat) (e : Int) (h : gv u 0 0 = (n, m, e)) (h0 : e ≠ 0) (h10 : e ≠ 10) : nextM q L a (c :: u) = ⟨c :: u, q, false, a, L, e⟩ := by
  unfold nextM
  rw [List.drop_succ_cons, List.drop_zero, h, if_neg h10, if_pos h0]
theorem next_long (q : Int) (L : List S48) (a : Nat) (c : Int) (u : List Int) (n m : Nat) (h : gv u 0 0 = (n, m, 0)) (hn : n > 1048576) : nextM q L a (c :: u) = ⟨c :: u, q, false, a, L, 3⟩ := by
  unfold nextM
  rw [List.drop_succ_cons, List.drop_zero, h, if_neg (by simp), if_neg (by simp), if_pos hn]
theorem next_few (q : Int) (L : List S48) (a : Nat) (c : Int) (u : List Int) (n m : Nat) (h : gv u 0 0 = (n, m, 0)) (hn : ¬ n > 1048576) (hl : (c :: u).length < 1 + m + n + 4) : nextM q L a (c :: u) = ⟨c :: u, q, false, a, L, 0⟩ := by
  unfold nextM
  rw [List.drop_succ_cons, List.drop_zero, h, if_neg (by simp), if_neg (by simp), if_neg hn, if_pos hl]
theorem next_ok (q : Int) (L : List S48) (a : Nat) (c : Int) (u : List Int) (n m : Nat) (h : gv u 0 0 = (n, m, 0)) (hn : ¬ n > 1048576) (hl : ¬ (c :: u).length < 1 + m + n + 4) : nextM q L a (c :: u) = if (chkV (c :: u)).2 = 0 then ⟨[], c, false, a, L ++ [⟨c, (chkV (c :: u)).1.drop (1 + m)⟩], 0⟩ else ⟨c :: u, q, false, a, L, (chkV (c :: u)).2⟩ := by
  unfold nextM
  rw [List.drop_succ_cons, List.drop_zero, h, if_neg (by simp), if_neg (by simp), if_neg hn, if_neg hl]
  rfl
theorem chkV_fst (s : List Int) (i : Nat) (hi : s.length = i + 4) (h : (chkV s).2 = 0) : (chkV s).1 = s.take i := by
  unfold chkV at h ⊢
  rw [if_neg (by omega), show s.length - 4 = i by omega] at h ⊢
  by_cases hk : (le4 s i : Int) = ofV [s.take i]
  · rw [if_pos hk]
  · rw [if_neg hk] at h
    simp at h
theorem chkV_err (s : List Int) (h : (chkV s).2 ≠ 0) : True := trivial

theorem sections : ∀ (f : Nat) (l : List Int) (q : Int) (L : List S48) (a : Nat), l.length < f → 5 ≤ a → closeV (l.foldl stepM ⟨[], q, false, a, L, 0⟩) = decV f l q L
  | f + 1, [], q, L, a, _, _ => rfl
  | f + 1, c :: cs, q, L, a, hf, ha => by
    rw [List.foldl_cons]
    have hst : stepM ⟨[], q, false, a, L, 0⟩ c = if c = 0 then ⟨[c], q, true, a + 1, L, 0⟩ else if c ≤ q ∨ c > 9 then ⟨[c], q, false, a + 1, L, 11⟩ else ⟨[c], q, false, a + 1, L, 0⟩ := by
      unfold stepM
      rw [if_pos rfl, if_neg (by simp), if_neg (by show ¬ a < 5; omega), if_pos rfl]
    rw [hst]
    by_cases h0 : c = 0
    · subst h0
      rw [if_pos rfl, decV_end]
      cases cs with
      | nil => rfl
      | cons d ds =>
        rw [List.foldl_cons, show stepM ⟨[0], q, true, a + 1, L, 0⟩ d = ⟨[0], q, true, a + 1 + 1, L, 11⟩ from rfl, close_err _ (by simp)]
        rfl
    · rw [if_neg h0]
      by_cases hq : c ≤ q ∨ c > 9
      · rw [if_pos hq, close_err _ (by simp)]
        have hs : secV (c :: cs) q = (0, [], 0, 11) := by rw [secV_cons, if_neg h0, if_pos hq]
        rw [decV_err _ _ _ _ (by rw [hs]; simp), hs]
      · rw [if_neg hq]
        have hs : secV (c :: cs) q = secT c (c :: cs) (gv cs 0 0) := by rw [secV_cons, if_neg h0, if_neg hq]
        have hgl := gv_len cs 0 0
        have hgt := gv_take cs 0 0
        have hga := gv_at cs 0 0
        have hge := gv_err cs 0 0
        generalize hg : gv cs 0 0 = g at *
        obtain ⟨n, m, e⟩ := g
        simp only at hgl hgt hga hge
        by_cases h10 : e = 10
        · subst h10
          rw [secT_err _ _ _ _ _ (by omega)] at hs
          rw [decV_err _ _ _ _ (by rw [hs]; simp), hs]
          have := run_more q L c cs (a + 1) (by omega) cs.length (Nat.le_refl _) (fun j _ _ => next_short _ _ _ _ _ (hgt j (.inr rfl)))
          rw [List.take_length] at this
          rw [this]
          rfl
        · have hm := hgl h10
          have hga' := fun j (hj : m ≤ j) => hga j h10 (by omega)
          have hmore : ∀ j, j < m → (gv (cs.take j) 0 0).2.2 = 10 := fun j hj => hgt j (.inl (by omega))
          by_cases he : e = 0
          · subst he
            by_cases hn : n > 1048576
            · have hse : secT c (c :: cs) (n, m, 0) = (0, [], 0, 3) := by unfold secT; rw [if_neg (by simp), if_pos hn]
              rw [hse] at hs
              rw [decV_err _ _ _ _ (by rw [hs]; simp), hs]
              rw [run_last q L c cs (a + 1) (by omega) (m - 1) (by omega) (fun j _ h2 => next_short _ _ _ _ _ (hmore j (by omega))), show m - 1 + 1 = m by omega, next_long _ _ _ _ _ _ _ (hga' m (Nat.le_refl _)) hn, close_err _ (by simp)]
            · have hfew : ∀ j, m ≤ j → j < m + n + 4 → j ≤ cs.length → ∀ a', nextM q L a' (c :: cs.take j) = ⟨c :: cs.take j, q, false, a', L, 0⟩ := fun j h1 h2 h3 a' => next_few _ _ _ _ _ _ _ (hga' j h1) hn (by rw [List.length_cons, List.length_take]; omega)
              have hall : ∀ j, j < m + n + 4 → j ≤ cs.length → ∀ a', nextM q L a' (c :: cs.take j) = ⟨c :: cs.take j, q, false, a', L, 0⟩ := fun j h2 h3 a' => by
                by_cases hj : j < m
                · exact next_short _ _ _ _ _ (hmore j hj)
                · exact hfew j (by omega) h2 h3 a'
              by_cases hlen : cs.length < m + n + 4
              · rw [secT_short _ _ _ _ (by omega) (by rw [List.length_cons]; omega)] at hs
                rw [decV_err _ _ _ _ (by rw [hs]; simp), hs]
                have := run_more q L c cs (a + 1) (by omega) cs.length (Nat.le_refl _) (fun j _ h2 => hall j (by omega) h2 _)
                rw [List.take_length] at this
                rw [this]
                rfl
              · rw [run_last q L c cs (a + 1) (by omega) (m + n + 3) (by omega) (fun j _ h2 => hall j (by omega) (by omega) _)]
                have htk : (c :: cs).take (1 + m + n + 4) = c :: cs.take (m + n + 3 + 1) := by rw [show 1 + m + n + 4 = m + n + 3 + 1 + 1 by omega, List.take_succ_cons]
                have hl2 : (c :: cs.take (m + n + 3 + 1)).length = 1 + m + n + 4 := by rw [List.length_cons, List.length_take]; omega
                rw [next_ok _ _ _ _ _ n m (hga' _ (by omega)) hn (by rw [hl2]; omega)]
                by_cases hck : (chkV (c :: cs.take (m + n + 3 + 1))).2 = 0
                · have hfst := chkV_fst _ (1 + m + n) hl2 hck
                  have hst := secT_ok c (c :: cs) n m (by omega) (by rw [List.length_cons]; omega) (chkV (c :: cs.take (m + n + 3 + 1))).1 (by rw [htk]; exact Prod.ext rfl hck)
                  rw [hst] at hs
                  rw [if_pos hck, decV_ok f _ q c _ _ L hs h0]
                  have hdr : (c :: cs).drop (1 + m + n + 4) = cs.drop (m + n + 3 + 1) := by rw [show 1 + m + n + 4 = m + n + 3 + 1 + 1 by omega, List.drop_succ_cons]
                  have hbd : (chkV (c :: cs.take (m + n + 3 + 1))).1.drop (1 + m) = ((c :: cs).take (1 + m + n)).drop (1 + m) := by
                    rw [hfst, ← htk, List.take_take, show min (1 + m + n) (1 + m + n + 4) = 1 + m + n by omega]
                  rw [hdr, hbd]
                  exact sections f _ c _ _ (by rw [List.length_drop]; simp only [List.length_cons] at hf; omega) (by omega)
                · rw [if_neg hck, close_err _ hck]
                  have hse : secT c (c :: cs) (n, m, 0) = (0, [], 0, (chkV (c :: cs.take (m + n + 3 + 1))).2) := by
                    unfold secT
                    rw [if_neg (by simp), if_neg hn, if_neg (show ¬ (1 + m + n + 4 > (c :: cs).length) by rw [List.length_cons]; omega), htk, if_neg hck]
                  rw [hse] at hs
                  rw [decV_err _ _ _ _ (by rw [hs]; exact hck), hs]
          · rw [secT_err _ _ _ _ _ he] at hs
            rw [decV_err _ _ _ _ (by rw [hs]; exact he), hs]
            rw [run_last q L c cs (a + 1) (by omega) (m - 1) (by omega) (fun j _ h2 => next_short _ _ _ _ _ (hmore j (by omega))), show m - 1 + 1 = m by omega, next_err _ _ _ _ _ _ _ _ (hga' m (Nat.le_refl _)) he h10, close_err _ he]
theorem heads : ∀ (r l : List Int) (i : Nat) (f : Nat), i + r.length = 5 → r = hdB.drop i → l.length < f + r.length →
    closeV (l.foldl stepM ⟨[], 0, false, i, [], 0⟩) = if hdL r l = 0 then decV f (l.drop r.length) 0 [] else ([], hdL r l)
  | [], l, i, f, hi, hr, hl => by
    have : i = 5 := by simpa using hi
    subst this
    rw [sections f l 0 [] 5 (by simpa using hl) (Nat.le_refl _)]
    have e : hdL [] l = 0 := by cases l <;> rfl
    rw [e, if_pos rfl]
    rfl
  | c :: r, [], i, f, hi, hr, hl => rfl
  | c :: r, x :: l, i, f, hi, hr, hl => by
    have hi5 : i < 5 := by simp only [List.length_cons] at hi; omega
    have hcd : hdB.getD i 0 = c ∧ hdB.drop (i + 1) = r := by
      have e1 : (hdB.drop i)[0]? = some c := by rw [← hr]; rfl
      have e2 : (hdB.drop i).drop 1 = r := by rw [← hr]; rfl
      rw [List.drop_drop] at e2
      rw [List.getElem?_drop, Nat.add_zero] at e1
      exact ⟨by simp [List.getD, e1], e2⟩
    rw [List.foldl_cons]
    have hst : stepM ⟨[], 0, false, i, [], 0⟩ x = if x = c then ⟨[], 0, false, i + 1, [], 0⟩ else ⟨[], 0, false, i + 1, [], 11⟩ := by
      unfold stepM
      rw [if_pos rfl, if_neg (by simp), if_pos (by exact hi5), hcd.1]
    rw [hst, hdL]
    by_cases hx : x = c
    · rw [if_pos hx, if_pos hx, heads r l (i + 1) f (by simp only [List.length_cons] at hi; omega) hcd.2.symm (by simp only [List.length_cons] at hl; omega)]
      rfl
    · rw [if_neg hx, if_neg hx, close_err _ (by simp), if_neg (by omega)]
theorem machine (b : List Int) : closeV (b.foldl stepM ⟨[], 0, false, 0, [], 0⟩) = decW b := by
  unfold decW
  exact heads hdB b 0 (b.length + 1) rfl rfl (by omega)
end Go.Proofs.Ytglmfnaofpbpfaa.Fv

namespace Go.Proofs.Ytglmfnaofpbpfaa.Hf
set_option linter.unusedVariables false
set_option linter.unusedSimpArgs false
open Go Go.RowKit Go.Proofs.Ytglmfnaofpbpfaa.P Go.Proofs.Ytglmfnaofpbpfaa.C Go.Proofs.Ytglmfnaofpbpfaa.Fv Go.Proofs.YtglmfnaofpbpfaaW.PrintWords Go.Proofs.YtglmfnaofpbpfaaW.PrintLast Go.Proofs.YtglmfnaofpbpfaaW.PrintMore

abbrev Sec := S48
structure FS where
  took : List Int
  last : Int
  taken : Nat
  fin : Bool
  closed : Bool
  L : List Sec
  e : Int
def cellsF (vt vl : Value) (s : FS) : Array Value := #[vt, .int .i64 s.last, .int .i64 (s.taken : Int), .bool s.fin, .bool s.closed, vl, .int .i64 s.e]
/-- A feeder at block g, whose memory lies in P. -/
def Fd (P : Nat → Prop) (base g : Nat) (w : World) (s : FS) : Prop := base ≤ g ∧ P g ∧ ∃ vt vl, w.heap[g]? = some (.cells (cellsF vt vl s) 51 (0, 0)) ∧
  Kd.R (Kd.int .u8) 5 w base (fun k => (P k ∧ k ≠ g) ∧ some k ≠ vl.ownBlock) vt s.took ∧ Kd.N k48 48 w base (fun k => (P k ∧ k ≠ g) ∧ some k ≠ vt.ownBlock) vl s.L
section
variable {P P' : Nat → Prop} {base g : Nat} {w w1 : World} {s : FS}
theorem Fd_below (h : Fd P base g w s) (hb : Below w.heap.size w w1) : Fd P base g w1 s := by
  obtain ⟨h0, h1, vt, vl, hg, hR, hN⟩ := h
  exact ⟨h0, h1, vt, vl, blk_below hg hb, Kd.R_below hR hb, Kd.N_below hN hb⟩
theorem Fd_mono (h : Fd P base g w s) (hp : ∀ k, P k → P' k) : Fd P' base g w s := by
  obtain ⟨h0, h1, vt, vl, hg, hR, hN⟩ := h
  exact ⟨h0, hp g h1, vt, vl, hg, Kd.R_mono hR (fun k hk => ⟨⟨hp k hk.1.1, hk.1.2⟩, hk.2⟩), Kd.N_mono hN (fun k hk => ⟨⟨hp k hk.1.1, hk.1.2⟩, hk.2⟩)⟩
theorem Fd_kept {S : Nat → Prop} (h : Fd P base g w s) (hk : Kept w w1 S) (hs : ∀ k, P k → ¬ S k) : Fd P base g w1 s := by
  obtain ⟨h0, h1, vt, vl, hg, hR, hN⟩ := h
  have hlt : g < w.heap.size := (Array.getElem?_eq_some_iff.1 hg).1
  exact ⟨h0, h1, vt, vl, (hk.2 g hlt (hs g h1)).trans hg, Kd.R_step hR (fun k ho hl => hk.2 k hl (hs k ho.1.1)), Kd.N_step hN (fun k ho hl => hk.2 k hl (hs k ho.1.1))⟩
/-- One of the feeder's own scalars is written. -/
theorem Fd_set {i : Nat} {u : Value} {s' : FS} (h : Fd P base g w s) (ht : s'.took = s.took) (hL : s'.L = s.L) (hc : ∀ vt vl, (cellsF vt vl s).setIfInBounds i u = cellsF vt vl s') : Fd P base g (w.setCell ⟨g, i, none⟩ u) s' := by
  obtain ⟨h0, h1, vt, vl, hg, hR, hN⟩ := h
  refine ⟨h0, h1, vt, vl, ?_, ?_, ?_⟩
  · rw [← hc]
    exact blk_set hg i u
  · rw [ht]
    exact Kd.R_far hR (fun _ hk => hk.1.2) u
  · rw [hL]
    exact Kd.N_far hN (fun _ hk => hk.1.2) u
theorem Fd_cells (h : Fd P base g w s) : w.cell? ⟨g, 1, none⟩ = some (.int .i64 s.last) ∧ w.cell? ⟨g, 2, none⟩ = some (.int .i64 (s.taken : Int)) ∧ w.cell? ⟨g, 3, none⟩ = some (.bool s.fin) ∧ w.cell? ⟨g, 4, none⟩ = some (.bool s.closed) ∧ w.cell? ⟨g, 6, none⟩ = some (.int .i64 s.e) ∧ ∀ i, w.frozen? ⟨g, i, none⟩ = false := by
  obtain ⟨h0, h1, vt, vl, hg, hR, hN⟩ := h
  exact ⟨(blk_cell hg 1).trans rfl, (blk_cell hg 2).trans rfl, (blk_cell hg 3).trans rfl, (blk_cell hg 4).trans rfl, (blk_cell hg 6).trans rfl, fun i => blk_frozen hg i⟩
end
theorem C_bytes' (w : World) (g : Nat) (xs : List Int) (cs : Array Value) (t : TypeId) (fr : Nat × Nat) (hg : w.heap[g]? = some (.cells cs t fr)) (hc : cs = (xs.map (Value.int .u8)).toArray) (hl : xs.length ≤ 9223372036854775807) : Kd.C (Kd.int .u8) w (some ⟨g, 0, none⟩) xs.length xs := by
  refine ⟨rfl, hl, fun _ => ⟨⟨g, 0, none⟩, rfl, fun j p hp => ⟨[.int .u8 p], rfl, rfl, fun i u hu => ?_⟩⟩⟩
  have hi : i = 0 := by
    cases i with
    | zero => rfl
    | succ i => simp at hu
  subst hi
  have hu' : Value.int .u8 p = u := by simpa using hu
  subst hu'
  have e : (Addr.add ⟨g, 0, none⟩ (j * (Kd.int IntKind.u8).sz + 0)) = ⟨g, j, none⟩ := by
    have : (Kd.int IntKind.u8).sz = 1 := rfl
    rw [this, Addr.add_mid]; simp
  rw [e, cell_of_row w g j cs t fr hg, hc]
  simp [hp]
theorem RH_C {w : World} {base : Nat} {ok : Nat → Prop} {A : Option Addr} {c : Nat} {xs : List Int} (h : Fz.RH w base ok (.slice A xs.length c) xs) : Kd.C (Kd.int .u8) w A xs.length xs := by
  rcases h with h | ⟨h0, h1, g, hv, hb, ho, hg⟩
  · exact (Kd.R_reads' h).2.2
  · injection hv with hA _ _
    subst hA
    exact C_bytes' w g xs _ 5 _ hg rfl (by omega)
def fs0 : FS := ⟨[], 0, 0, false, false, [], 0⟩

set_option maxHeartbeats 8000000 in
set_option maxRecDepth 100000 in
/-- New: a feeder in new memory. -/
theorem new_calls (w : World) : Calls Try.prog 8 #[] w fun e w' => e = .returned (.pointer (some ⟨w.heap.size, 0, none⟩)) ∧ Fd (fun k => k = w.heap.size) w.heap.size w.heap.size w' fs0 ∧ Below w.heap.size w w' := by
  have hu := Try.underlying51
  go_enter Try.func8, Try.ntmps8
  go_wp2
  go_ret
  refine ⟨rfl, ⟨Nat.le_refl _, rfl, .slice none 0 0, .slice none 0 0, heap_alloc_new _ _, Kd.R_nil _ _ _ _ _, Kd.N_nil _ _ _ _ _⟩, (Below.refl _ w).alloc (Nat.le_refl _) _⟩
set_option maxHeartbeats 8000000 in
set_option maxRecDepth 100000 in
theorem taken_calls (P : Nat → Prop) (base g : Nat) (w : World) (s : FS) (h : Fd P base g w s) : Calls Try.prog 12 #[.pointer (some ⟨g, 0, none⟩)] w fun e w' => e = .returned (.int .i64 (s.taken : Int)) ∧ w' = w := by
  have hu := Try.underlying51
  obtain ⟨x1, x2, x3, x4, x6, hf⟩ := Fd_cells h
  go_enter Try.func12, Try.ntmps12
  go_wp2
  go_ret
  exact ⟨rfl, rfl⟩
end Go.Proofs.Ytglmfnaofpbpfaa.Hf

namespace Go.Proofs.Ytglmfnaofpbpfaa.Hf
set_option linter.unusedVariables false
set_option linter.unusedSimpArgs false
open Go Go.RowKit Go.Proofs.Ytglmfnaofpbpfaa.P Go.Proofs.Ytglmfnaofpbpfaa.C Go.Proofs.Ytglmfnaofpbpfaa.Fv Go.Proofs.YtglmfnaofpbpfaaW.PrintWords Go.Proofs.YtglmfnaofpbpfaaW.PrintLast Go.Proofs.YtglmfnaofpbpfaaW.PrintMore

def beginV (s : FS) (c : Int) : FS × Int :=
  if s.fin = true then (s, 11) else if s.taken ≤ 5 then (if c = hdB.getD (s.taken - 1) 0 then (s, 0) else (s, 11)) else if c = 0 then ({ s with fin := true }, 0)
  else if c ≤ s.last ∨ c > 9 then (s, 11) else ({ s with took := s.took ++ [c] }, 0)
theorem rd_hd (n : Nat) (h0 : 1 ≤ n) : rd hdB ((n : Int) - 1) = hdB.getD (n - 1) 0 := by
  unfold rd
  rw [show ((n : Int) - 1).toNat = n - 1 by omega]

set_option maxHeartbeats 8000000 in
set_option maxRecDepth 100000 in
theorem begin_calls (P : Nat → Prop) (g : Nat) (w0 w : World) (s : FS) (c : Int) (hB : Below w0.heap.size w0 w) (h : Fd P w0.heap.size g w s) (hc : 0 ≤ c ∧ c ≤ 255) (ht0 : 1 ≤ s.taken) (ht1 : s.taken ≤ 1000000) (htk : s.took.length ≤ 1000000) :
    Calls Try.prog 20 #[.pointer (some ⟨g, 0, none⟩), .int .u8 c] w fun e w' => e = .returned (.int .i64 (beginV s c).2) ∧ Fd (fun k => P k ∨ w.heap.size ≤ k) w0.heap.size g w' (beginV s c).1 ∧ Below w0.heap.size w0 w' ∧ Kept w w' P := by
  have hu := Try.underlying51
  have hP : ∀ k, P k → P k ∨ w.heap.size ≤ k := fun _ hk => .inl hk
  have hhead := frame_Head.calls hdB w rfl
  have hwk : wrap64 c = c := w64 (by omega) (by omega)
  have hwt : wrap64 ((s.taken : Int) - 1) = (s.taken : Int) - 1 := w64 (by omega) (by omega)
  have hcm : c % 256 = c := by omega
  obtain ⟨took, last, taken, fin, closed, L, er⟩ := s
  simp only at ht0 ht1 htk hwt
  go_enter Try.func20, Try.ntmps20
  go_upto_region 2 with (go_at_call 25; refine hhead.mono ?_; rintro e w1 ⟨v1, rfl, hrh, hb1⟩)
  obtain ⟨A1, c1, e1⟩ := Fz.RH_slice hrh
  subst e1
  have hC1 := RH_C hrh
  have h1 := Fd_below h hb1
  have hB1 := below_step hB hb1
  have hK1 : Kept w w1 P := Kept.of_below hb1 P
  obtain ⟨x1, x2, x3, x4, x6, hf⟩ := Fd_cells h1
  simp only at x1 x2 x3 x4 x6
  have hl5 : hdB.length = 5 := rfl
  rw [hl5] at hC1
  have hbv : beginV ⟨took, last, taken, fin, closed, L, er⟩ c = if fin = true then (⟨took, last, taken, fin, closed, L, er⟩, 11) else if taken ≤ 5 then (if c = hdB.getD (taken - 1) 0 then (⟨took, last, taken, fin, closed, L, er⟩, 0) else (⟨took, last, taken, fin, closed, L, er⟩, 11)) else if c = 0 then (⟨took, last, taken, true, closed, L, er⟩, 0) else if c ≤ last ∨ c > 9 then (⟨took, last, taken, fin, closed, L, er⟩, 11) else (⟨took ++ [c], last, taken, fin, closed, L, er⟩, 0) := rfl
  have HBV := Aside0.mk hbv
  clear hbv
  cases fin with
  | true =>
    have hbv := HBV.out
    rw [if_pos rfl] at hbv
    replace HBV := Aside0.mk hbv
    clear hbv
    go_wp2
    go_ret
    rw [HBV.out]
    exact ⟨rfl, Fd_mono h1 hP, hB1, hK1⟩
  | false =>
    have hbv := HBV.out
    clear HBV
    rw [if_neg (by simp)] at hbv
    by_cases h5 : taken ≤ 5
    · rw [if_pos h5] at hbv
      have h5i : (taken : Int) ≤ 5 := by omega
      have p1 : 0 ≤ (taken : Int) - 1 := by omega
      have q1 : (taken : Int) - 1 < ((5 : Nat) : Int) := by omega
      obtain ⟨ad, e1, hx⟩ := Kd.at_int hC1 ((taken : Int) - 1) p1 q1
      subst e1
      rw [rd_hd taken ht0, show ((taken : Int) - 1).toNat = taken - 1 by omega] at hx
      have q1' : (taken : Int) - 1 < 5 := q1
      generalize hdB.getD (taken - 1) 0 = hv at hx hbv
      by_cases hcv : c = hv
      · rw [if_pos hcv] at hbv
        have HBV := Aside0.mk hbv
        clear hbv
        have hcb : (c != hv) = false := bne_eq_false_iff_eq.mpr hcv
        clear hwk hwt hcm
        go_wp2
        go_ret
        rw [HBV.out]
        exact ⟨rfl, Fd_mono h1 hP, hB1, hK1⟩
      · rw [if_neg hcv] at hbv
        have HBV := Aside0.mk hbv
        clear hbv
        have hcb : (c != hv) = true := bne_iff_ne.mpr hcv
        clear hwk hwt hcm
        go_wp2
        go_ret
        rw [HBV.out]
        exact ⟨rfl, Fd_mono h1 hP, hB1, hK1⟩
    · rw [if_neg h5] at hbv
      have h5i : ¬ (taken : Int) ≤ 5 := by omega
      by_cases h0 : c = 0
      · rw [if_pos h0] at hbv
        have HBV := Aside0.mk hbv
        clear hbv
        have hs := Fd_set (i := 3) (u := .bool true) (s' := ⟨took, last, taken, true, closed, L, er⟩) h1 rfl rfl (fun _ _ => rfl)
        have hgw : w0.heap.size ≤ g := h.1
        have hPg : P g := h.2.1
        have hf3 := hf 3
        clear hf hwk hwt hcm
        subst h0
        go_wp2
        go_ret
        rw [HBV.out]
        exact ⟨rfl, Fd_mono hs hP, below_set hB1 hgw, Kept.setCell hK1 (.inl hPg) _⟩
      · rw [if_neg h0] at hbv
        by_cases hq : c ≤ last ∨ c > 9
        · rw [if_pos hq] at hbv
          have HBV := Aside0.mk hbv
          clear hbv
          clear hwk hwt hcm
          by_cases hq1 : c ≤ last
          · go_wp2
            go_ret
            rw [HBV.out]
            exact ⟨rfl, Fd_mono h1 hP, hB1, hK1⟩
          · have hq2 : c > 9 := by omega
            go_wp2
            go_ret
            rw [HBV.out]
            exact ⟨rfl, Fd_mono h1 hP, hB1, hK1⟩
        · rw [if_neg hq] at hbv
          have HBV := Aside0.mk hbv
          clear hbv
          have hq1 : ¬ c ≤ last := fun x => hq (.inl x)
          have hq2 : ¬ c > 9 := fun x => hq (.inr x)
          clear hwk hwt hcm hq
          obtain ⟨hgw, hPg, vt, vl, hgc, hR, hN⟩ := h1
          have x0 : w1.cell? ⟨g, 0, none⟩ = some vt := (blk_cell hgc 0).trans rfl
          have hgne := Kd.R_ne hR hgc (by decide)
          have hlk : (took.length + 1) * 1 ≤ 140737488355328 := by omega
          have hglt : g < w1.heap.size := (Array.getElem?_eq_some_iff.1 hgc).1
          have hfr : ∀ k, w1.heap.size ≤ k → (P k ∨ w.heap.size ≤ k) ∧ k ≠ g ∧ some k ≠ vl.ownBlock := fun k hk => ⟨.inr (Nat.le_trans hb1.size hk), by omega, fun e => by have := Kd.N_lt hN k e.symm; omega⟩
          have hRm : Kd.R (Kd.int .u8) 5 w1 w0.heap.size (fun k => (P k ∨ w.heap.size ≤ k) ∧ k ≠ g ∧ some k ≠ vl.ownBlock) vt took := Kd.R_mono hR (fun k hk => ⟨.inl hk.1.1, hk.1.2, hk.2⟩)
          have hlen2 : (took ++ [c]).length = took.length + 1 := by rw [List.length_append, one_len]
          have hPr : ∀ k, vt.ownBlock = some k → P k ∨ w.heap.size ≤ k := fun k hk => .inl (hR.1 k hk).1.1
          go_wp2_with (first | ((with_reducible refine gate_builtin (b := .append) (xs := #[.tmp 14, .tmp 16]) rfl ?_); at_builtin; refine Kd.R_append (Kd.int .u8) (w0 := w0) w0.heap.size rfl (.tmp 14) (.tmp 16) 22 5 (.int .u8 0) 1 rfl Try.underlying22 info5 rfl (by decide) (by omega) vt took c [.int .u8 c] (fun k => (P k ∨ w.heap.size ≤ k) ∧ k ≠ g ∧ some k ≠ vl.ownBlock) (fun _ => False) rfl rfl ?aP (fun _ hk => hk.elim) ?aF ?aO ?aB ?aS ?aL ?_; (case aP => exact rfl); (case aF => exact hfr); (case aO => exact hRm); (case aB => exact hB1); (case aS => exact hB1.size); (case aL => exact hlk); intro v2 w2 ho hb2 hg2 hat2; have hgc2 := blk_grown hgc hg2 hgne; have hN2 := Kd.N_after hN hg2 hat2; have hK2 := Kept.of_grown hg2 hK1 hPr; obtain ⟨A2, c2, e2⟩ := Kd.R_slice ho; subst e2; rw [hlen2] at ho hN2; have y0 : w2.cell? ⟨g, 0, none⟩ = some vt := (blk_cell hgc2 0).trans rfl; have yf := blk_frozen hgc2 0; clear hgc x0 x1 x2 x3 x4 x6 hf hat2 hg2 hRm hR hN hfr hPr hK1))
          go_ret
          rw [HBV.out]
          refine ⟨rfl, ⟨hgw, .inl hPg, _, vl, blk_set hgc2 0 _, Kd.R_mono (Kd.R_far (p := ⟨g, 0, none⟩) ho (fun _ hk => hk.2.1) _) (fun k hk => ⟨⟨hk.1, hk.2.1⟩, hk.2.2⟩), Kd.N_mono (Kd.N_far (p := ⟨g, 0, none⟩) hN2 (fun _ hk => hk.1.2) _) (fun k hk => ⟨⟨.inl hk.1.1, hk.1.2⟩, hk.2⟩)⟩, below_set hb2 hgw, Kept.setCell hK2 (.inl hPg) _⟩
end Go.Proofs.Ytglmfnaofpbpfaa.Hf
