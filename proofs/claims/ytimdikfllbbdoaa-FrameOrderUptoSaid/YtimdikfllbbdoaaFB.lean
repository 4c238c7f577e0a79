/- What is written is read; cut short it is missing some; with any behind it is none; what is read is what is written. No condition. -/
import Derived.Test.YtimdikfllbbdoaaFD
namespace Go.Proofs.Ytimdikfllbbdoaa.Fv
set_option linter.unusedVariables false
set_option linter.unusedSimpArgs false
open Go.RowKit Go.Proofs.Ytimdikfllbbdoaa.P Go.Proofs.Ytimdikfllbbdoaa.C Go.Proofs.YtimdikfllbbdoaaW.PrintWords Go.Proofs.YtimdikfllbbdoaaW.PrintLast Go.Proofs.YtimdikfllbbdoaaW.PrintMore

theorem bytes4_len (T : Int) : (bytes4 T).length = 4 := rfl
theorem secT_ok (c : Int) (l : List Int) (n m : Nat) (hn : n ≤ 1048576) (hl : 1 + m + n + 4 ≤ l.length) (r : List Int) (hc : chkV (l.take (1 + m + n + 4)) = (r, 0)) : secT c l (n, m, 0) = (c, (l.take (1 + m + n)).drop (1 + m), 1 + m + n + 4, 0) := by
  unfold secT
  rw [if_neg (by simp), if_neg (by simpa using hn), if_neg (by simpa using hl)]
  simp only [hc, if_true]
theorem secT_short (c : Int) (l : List Int) (n m : Nat) (hn : n ≤ 1048576) (hl : l.length < 1 + m + n + 4) : secT c l (n, m, 0) = (0, [], 0, 10) := by
  unfold secT
  rw [if_neg (by simp), if_neg (by simpa using hn), if_pos (by simpa using hl)]
theorem secT_err (c : Int) (l : List Int) (n m : Nat) (e : Int) (he : e ≠ 0) : secT c l (n, m, e) = (0, [], 0, e) := by
  unfold secT
  rw [if_pos he]

theorem secB_cons (k : Int) (B r : List Int) : secB k B ++ r = k :: (putN B.length ++ (B ++ (bytes4 (ofV [[k] ++ putN B.length ++ B]) ++ r))) := by
  unfold secB
  simp only [List.append_assoc, List.singleton_append, List.cons_append, List.nil_append]
theorem sec_secB (k : Int) (B r : List Int) (q : Int) (hk : 1 ≤ k ∧ k ≤ 9 ∧ q < k) (hB : ∀ c ∈ B, 0 ≤ c ∧ c ≤ 255) (hl : B.length ≤ 1900) : secV (secB k B ++ r) q = (k, B, (secB k B).length, 0) := by
  have hsl := secB_len k B
  have hcons := secB_cons k B r
  have hg := gv_put B.length (by omega) (B ++ (bytes4 (ofV [[k] ++ putN B.length ++ B]) ++ r))
  have hck := chk_seal ([k] ++ putN B.length ++ B) (pre_wf k B (by omega) hB (by omega))
  have ht1 : (secB k B ++ r).take (1 + (putN B.length).length + B.length + 4) = secB k B := by
    rw [← hsl]
    exact List.take_left
  have ht2 : ((secB k B ++ r).take (1 + (putN B.length).length + B.length)).drop (1 + (putN B.length).length) = B := by
    have e1 : secB k B ++ r = ([k] ++ putN B.length ++ B) ++ (bytes4 (ofV [[k] ++ putN B.length ++ B]) ++ r) := by unfold secB; rw [List.append_assoc]
    have e2 : 1 + (putN B.length).length + B.length = ([k] ++ putN B.length ++ B).length := by rw [List.length_append, List.length_append, one_len]
    have e3 : 1 + (putN B.length).length = ([k] ++ putN B.length).length := by rw [List.length_append, one_len]
    rw [e1, e2, List.take_left, e3]
    exact List.drop_left
  have hs := secT_ok k (secB k B ++ r) B.length (putN B.length).length (by omega) (by rw [List.length_append, hsl]; omega) ([k] ++ putN B.length ++ B) (by rw [ht1]; exact hck)
  rw [ht2, ← hsl] at hs
  rw [hcons] at hs ⊢
  rw [secV_cons, if_neg (by omega), if_neg (by omega), hg]
  exact hs
theorem sec_cut (k : Int) (B r : List Int) (q : Int) (hk : 1 ≤ k ∧ k ≤ 9 ∧ q < k) (hl : B.length ≤ 1900) (m : Nat) (hm : m < (secB k B).length) : (secV ((secB k B ++ r).take m) q).2.2.2 = 10 := by
  rw [secB_len] at hm
  rw [secB_cons]
  match m, hm with
  | 0, _ => rfl
  | m + 1, hm =>
    rw [List.take_succ_cons, secV_cons, if_neg (by omega), if_neg (by omega)]
    have hg := gv_put B.length (by omega) (B ++ (bytes4 (ofV [[k] ++ putN B.length ++ B]) ++ r))
    by_cases hp : m < (putN B.length).length
    · have h10 := gv_take (putN B.length ++ (B ++ (bytes4 (ofV [[k] ++ putN B.length ++ B]) ++ r))) 0 0 m (.inl (by rw [hg]; simpa using hp))
      generalize gv ((putN B.length ++ (B ++ (bytes4 (ofV [[k] ++ putN B.length ++ B]) ++ r))).take m) 0 0 = g at *
      obtain ⟨n', m', e⟩ := g
      simp only at h10
      subst h10
      rw [secT_err _ _ _ _ _ (by omega)]
    · rw [List.take_append, List.take_of_length_le (by omega), gv_put _ (by omega)]
      rw [secT_short _ _ _ _ (by omega) (by simp only [List.length_cons, List.length_append, List.length_take]; omega)]

theorem decV_end (f : Nat) (q : Int) (out : List S33) (tail : List Int) : decV (f + 1) (0 :: tail) q out = if tail = [] then (out, 0) else ([], 11) := by
  rw [decV, secV_cons]
  simp only [if_true, ne_eq, not_true_eq_false, if_false, List.length_cons]
  cases tail with
  | nil => rfl
  | cons c cs => simp
theorem decV_ok (f : Nat) (l : List Int) (q k : Int) (B : List Int) (n : Nat) (out : List S33) (hs : secV l q = (k, B, n, 0)) (hk : k ≠ 0) : decV (f + 1) l q out = decV f (l.drop n) k (out ++ [⟨k, B⟩]) := by
  rw [decV, hs]
  simp only [ne_eq, not_true_eq_false, if_false, if_neg hk]
theorem decV_err (f : Nat) (l : List Int) (q : Int) (out : List S33) (h : (secV l q).2.2.2 ≠ 0) : decV (f + 1) l q out = ([], (secV l q).2.2.2) := by
  rw [decV, if_pos h]
theorem dec_body : ∀ (l : List S33) (q : Int) (out : List S33) (tail : List Int) (f : Nat), okL q l = true → (∀ s ∈ l, wfS s) → l.length < f → decV f (bodyL l ++ (0 :: tail)) q out = if tail = [] then (out ++ l, 0) else ([], 11)
  | [], q, out, tail, f + 1, _, _, _ => by
    rw [bodyL, List.nil_append, decV_end, List.append_nil]
  | s :: l, q, out, tail, f + 1, ho, hw, hf => by
    simp only [okL, Bool.and_eq_true, decide_eq_true_eq] at ho
    have hs := hw s (List.mem_cons_self)
    rw [bodyL, List.append_assoc, decV_ok f _ q s.f0 s.f1 _ out (sec_secB s.f0 s.f1 _ q ho.1 hs.1 hs.2) (by omega), List.drop_left,
      dec_body l s.f0 _ tail f ho.2 (fun x hx => hw x (List.mem_cons_of_mem _ hx)) (by simp only [List.length_cons] at hf; omega), List.append_assoc]
    rfl
theorem dec_cut : ∀ (l : List S33) (q : Int) (out : List S33) (m f : Nat), okL q l = true → (∀ s ∈ l, wfS s) → m < (bodyL l ++ [0]).length → m < f → (decV f ((bodyL l ++ [0]).take m) q out).2 = 10
  | [], q, out, m, f + 1, _, _, hm, _ => by
    have h0 : m = 0 := by simp only [bodyL, List.nil_append, one_len] at hm; omega
    subst h0
    rfl
  | s :: l, q, out, m, f + 1, ho, hw, hm, hf => by
    simp only [okL, Bool.and_eq_true, decide_eq_true_eq] at ho
    have hs := hw s (List.mem_cons_self)
    rw [bodyL, List.append_assoc] at hm ⊢
    by_cases hc : m < (secB s.f0 s.f1).length
    · have h10 := sec_cut s.f0 s.f1 (bodyL l ++ [0]) q ho.1 hs.2 m hc
      rw [decV_err _ _ _ _ (by rw [h10]; omega)]
      exact h10
    · rw [List.take_append, List.take_of_length_le (by omega), decV_ok f _ q s.f0 s.f1 _ out (sec_secB s.f0 s.f1 _ q ho.1 hs.1 hs.2) (by omega), List.drop_left]
      have hsp := secB_pos s.f0 s.f1
      refine dec_cut l s.f0 _ _ f ho.2 (fun x hx => hw x (List.mem_cons_of_mem _ hx)) ?_ (by omega)
      rw [List.length_append] at hm
      omega
theorem hdL_self : ∀ (cs r : List Int), hdL cs (cs ++ r) = 0
  | [], r => by cases r <;> rfl
  | c :: cs, r => by rw [List.cons_append, hdL, if_pos rfl]; exact hdL_self cs r
theorem hdL_cut : ∀ (cs r : List Int) (m : Nat), m < cs.length → hdL cs ((cs ++ r).take m) = 10
  | [], r, m, h => by simp at h
  | c :: cs, r, 0, h => rfl
  | c :: cs, r, m + 1, h => by
    rw [List.cons_append, List.take_succ_cons, hdL, if_pos rfl]
    exact hdL_cut cs r m (by simp only [List.length_cons] at h; omega)
theorem hdL_inv : ∀ (cs l : List Int), hdL cs l = 0 → l = cs ++ l.drop cs.length
  | [], l, _ => rfl
  | c :: cs, [], h => by simp [hdL] at h
  | c :: cs, x :: xs, h => by
    rw [hdL] at h
    split at h
    · rename_i he
      have := hdL_inv cs xs h
      rw [List.length_cons, List.drop_succ_cons, List.cons_append, ← this, he]
    · omega
theorem len_body : ∀ l : List S33, l.length ≤ (bodyL l).length
  | [] => Nat.le_refl _
  | s :: l => by
    have := len_body l
    have := secB_pos s.f0 s.f1
    simp only [bodyL, List.length_append, List.length_cons]
    omega
theorem hdB_len : hdB.length = 5 := rfl
/-- The bytes of sections that may be. -/
def encB (l : List S33) : List Int := hdB ++ bodyL l ++ [0]
theorem encB_eq (l : List S33) : encB l = hdB ++ (bodyL l ++ [0]) := by unfold encB; rw [List.append_assoc]
theorem dec_enc (l : List S33) (ho : okL 0 l = true) (hw : ∀ s ∈ l, wfS s) : decW (encB l) = (l, 0) := by
  unfold decW
  rw [encB_eq, if_pos (hdL_self _ _)]
  have := dec_body l 0 [] [] ((hdB ++ (bodyL l ++ [0])).length + 1) ho hw (by have := len_body l; simp only [List.length_append]; omega)
  rw [if_pos rfl, List.nil_append] at this
  exact this
theorem dec_more (l : List S33) (ho : okL 0 l = true) (hw : ∀ s ∈ l, wfS s) (c : Int) : decW (encB l ++ [c]) = ([], 11) := by
  unfold decW
  rw [encB_eq, List.append_assoc, List.append_assoc, if_pos (hdL_self _ _)]
  have := dec_body l 0 [] [c] ((hdB ++ (bodyL l ++ ([0] ++ [c]))).length + 1) ho hw (by have := len_body l; simp only [List.length_append]; omega)
  rw [if_neg (by simp)] at this
  exact this
theorem dec_less (l : List S33) (ho : okL 0 l = true) (hw : ∀ s ∈ l, wfS s) (m : Nat) (hm : m < (encB l).length) : (decW ((encB l).take m)).2 = 10 := by
  rw [encB_eq] at hm ⊢
  unfold decW
  by_cases h5 : m < hdB.length
  · rw [hdL_cut hdB _ m h5, if_neg (by omega)]
  · have e : (hdB ++ (bodyL l ++ [0])).take m = hdB ++ (bodyL l ++ [0]).take (m - 5) := by
      rw [List.take_append, List.take_of_length_le (by omega), hdB_len]
    rw [e, if_pos (hdL_self _ _)]
    rw [List.length_append] at hm
    have hb := hdB_len
    exact dec_cut l 0 [] (m - 5) _ ho hw (by omega) (by rw [List.length_append, List.length_take]; omega)

theorem chk_inv (s : List Int) (h : ∀ c ∈ s, 0 ≤ c ∧ c ≤ 255) (i : Nat) (hi : i + 4 = s.length) (hc : (chkV s).2 = 0) : s = s.take i ++ bytes4 (ofV [s.take i]) := by
  unfold chkV at hc
  rw [if_neg (by omega), show s.length - 4 = i by omega] at hc
  have hr := ofV_range (s.take i) (fun c hc => h c (List.mem_of_mem_take hc))
  by_cases hk : (le4 s i : Int) = ofV [s.take i]
  · exact ((seal_iff s h i hi _ hr.1 hr.2).2 hk).symm
  · rw [if_neg hk] at hc
    simp at hc
theorem sec_inv (l : List Int) (h : ∀ c ∈ l, 0 ≤ c ∧ c ≤ 255) (hl : l.length ≤ 1900) (q k : Int) (B : List Int) (n : Nat) (hs : secV l q = (k, B, n, 0)) :
    (k = 0 ∧ n = 1 ∧ ∃ cs, l = 0 :: cs) ∨ ((1 ≤ k ∧ k ≤ 9 ∧ q < k) ∧ (∀ c ∈ B, 0 ≤ c ∧ c ≤ 255) ∧ B.length ≤ 1900 ∧ l = secB k B ++ l.drop n ∧ 1 ≤ n) := by
  match l, h, hl, hs with
  | [], _, _, hs => simp [secV] at hs
  | c :: cs, h, hl, hs =>
    have hc := h c (List.mem_cons_self)
    rw [secV_cons] at hs
    by_cases h0 : c = 0
    · rw [if_pos h0] at hs
      simp only [Prod.mk.injEq] at hs
      exact .inl ⟨hs.1.symm, hs.2.2.1.symm, cs, by rw [h0]⟩
    · rw [if_neg h0] at hs
      by_cases hq : c ≤ q ∨ c > 9
      · rw [if_pos hq] at hs
        simp at hs
      · rw [if_neg hq] at hs
        right
        have hgl := gv_len cs 0 0
        generalize hg : gv cs 0 0 = g at *
        obtain ⟨n', m, e⟩ := g
        by_cases he : e = 0
        · subst he
          have hm := hgl (by show (0 : Int) ≠ 10; omega)
          simp only at hm
          clear hgl
          unfold secT at hs
          simp only [ne_eq, not_true_eq_false, if_false] at hs
          by_cases hn : n' > 1048576
          · rw [if_pos hn] at hs; simp at hs
          · rw [if_neg hn] at hs
            by_cases hlen : 1 + m + n' + 4 > (c :: cs).length
            · rw [if_pos hlen] at hs; simp at hs
            · rw [if_neg hlen] at hs
              by_cases hck : (chkV ((c :: cs).take (1 + m + n' + 4))).2 = 0
              · rw [if_pos hck] at hs
                simp only [Prod.mk.injEq, and_true] at hs
                obtain ⟨rfl, hB, rfl⟩ := hs
                have hp := put_gv cs (fun x hx => h x (List.mem_cons_of_mem _ hx)) n' m hg (by omega)
                have hsl : ((c :: cs).take (1 + m + n' + 4)).length = 1 + m + n' + 4 := by rw [List.length_take]; omega
                have hci := chk_inv _ (fun x hx => h x (List.mem_of_mem_take hx)) (1 + m + n') (by rw [hsl]) hck
                have htt : ((c :: cs).take (1 + m + n' + 4)).take (1 + m + n') = (c :: cs).take (1 + m + n') := by rw [List.take_take]; congr 1; omega
                rw [htt] at hci
                have hBl : B.length = n' := by rw [← hB, List.length_drop, List.length_take]; omega
                have hpre : (c :: cs).take (1 + m + n') = [c] ++ putN B.length ++ B := by
                  rw [← List.take_append_drop (1 + m) ((c :: cs).take (1 + m + n')), hB, List.take_take, show min (1 + m) (1 + m + n') = m + 1 by omega, List.take_succ_cons, hp, hBl]
                  rfl
                refine ⟨⟨by omega, by omega, by omega⟩, ?_, by omega, ?_, by omega⟩
                · intro x hx
                  rw [← hB] at hx
                  exact h x (List.mem_of_mem_take (List.mem_of_mem_drop hx))
                · conv => lhs; rw [← List.take_append_drop (1 + m + n' + 4) (c :: cs), hci, hpre]
                  rfl
              · rw [if_neg hck] at hs
                simp only [Prod.mk.injEq] at hs
                exact absurd hs.2.2.2 hck
        · rw [secT_err _ _ _ _ _ he] at hs
          simp only [Prod.mk.injEq] at hs
          exact absurd hs.2.2.2 he
theorem dec_inv : ∀ (f : Nat) (l : List Int) (q : Int) (out r : List S33), (∀ c ∈ l, 0 ≤ c ∧ c ≤ 255) → l.length ≤ 1900 → decV f l q out = (r, 0) → ∃ l' : List S33, r = out ++ l' ∧ okL q l' = true ∧ (∀ s ∈ l', wfS s) ∧ l = bodyL l' ++ [0]
  | 0, l, q, out, r, _, _, h => by simp [decV] at h
  | f + 1, l, q, out, r, hw, hl, h => by
    by_cases he : (secV l q).2.2.2 = 0
    · obtain ⟨k, B, n, hs⟩ : ∃ k B n, secV l q = (k, B, n, 0) := ⟨(secV l q).1, (secV l q).2.1, (secV l q).2.2.1, by rw [← he]⟩
      rcases sec_inv l hw hl q k B n hs with ⟨rfl, rfl, cs, rfl⟩ | ⟨hk, hB, hBl, hlx, hn⟩
      · rw [decV_end] at h
        by_cases hcs : cs = []
        · rw [if_pos hcs] at h
          simp only [Prod.mk.injEq, and_true] at h
          exact ⟨[], by rw [List.append_nil]; exact h.symm, rfl, by simp, by rw [hcs]; rfl⟩
        · rw [if_neg hcs] at h
          simp at h
      · rw [decV_ok f l q k B n out hs (by omega)] at h
        obtain ⟨l', hr, ho, hw', hd⟩ := dec_inv f (l.drop n) k _ r (fun c hc => hw c (List.mem_of_mem_drop hc)) (by rw [List.length_drop]; omega) h
        refine ⟨⟨k, B⟩ :: l', by rw [hr, List.append_assoc]; rfl, ?_, ?_, ?_⟩
        · simp only [okL, Bool.and_eq_true, decide_eq_true_eq]
          exact ⟨hk, ho⟩
        · intro s hs'
          rcases List.mem_cons.1 hs' with rfl | hs'
          · exact ⟨hB, hBl⟩
          · exact hw' s hs'
        · rw [hlx, hd]
          simp only [bodyL, List.append_assoc]
    · rw [decV_err _ _ _ _ he] at h
      simp only [Prod.mk.injEq] at h
      exact absurd h.2 he
theorem decW_inv (b : List Int) (h : ∀ c ∈ b, 0 ≤ c ∧ c ≤ 255) (hl : b.length ≤ 1900) (r : List S33) (hd : decW b = (r, 0)) : okL 0 r = true ∧ (∀ s ∈ r, wfS s) ∧ b = encB r := by
  unfold decW at hd
  by_cases h0 : hdL hdB b = 0
  · rw [if_pos h0] at hd
    obtain ⟨l', hr, ho, hw, hb⟩ := dec_inv _ _ _ _ _ (fun c hc => h c (List.mem_of_mem_drop hc)) (by rw [List.length_drop]; omega) hd
    rw [List.nil_append] at hr
    subst hr
    refine ⟨ho, hw, ?_⟩
    have := hdL_inv hdB b h0
    rw [this, hdB_len, hb, encB_eq]
  · rw [if_neg h0] at hd
    simp only [Prod.mk.injEq] at hd
    exact absurd hd.2 h0
theorem decV_nil : ∀ (f : Nat) (l : List Int) (q : Int) (out : List S33), (decV f l q out).2 ≠ 0 → (decV f l q out).1 = []
  | 0, _, _, _, _ => rfl
  | f + 1, l, q, out, h => by
    rw [decV] at h ⊢
    by_cases h1 : (secV l q).2.2.2 ≠ 0
    · rw [if_pos h1]
    · rw [if_neg h1] at h ⊢
      by_cases h2 : (secV l q).1 = 0
      · rw [if_pos h2] at h ⊢
        by_cases h3 : (secV l q).2.2.1 < l.length
        · rw [if_pos h3]
        · rw [if_neg h3] at h; exact absurd rfl h
      · rw [if_neg h2] at h ⊢
        exact decV_nil f _ _ _ h
theorem decW_nil (b : List Int) (h : (decW b).2 ≠ 0) : (decW b).1 = [] := by
  unfold decW at h ⊢
  by_cases h0 : hdL hdB b = 0
  · rw [if_pos h0] at h ⊢
    exact decV_nil _ _ _ _ h
  · rw [if_neg h0]
end Go.Proofs.Ytimdikfllbbdoaa.Fv
