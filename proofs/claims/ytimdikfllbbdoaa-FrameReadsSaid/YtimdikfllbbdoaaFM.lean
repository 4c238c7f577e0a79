/- The document's way of reading sections, byte by byte: the machine, and that it tells what is read at once. No condition. -/
import Derived.Test.YtimdikfllbbdoaaPx31
import Derived.Test.YtimdikfllbbdoaaFB
namespace Go.Proofs.Ytimdikfllbbdoaa.Fv
set_option linter.unusedVariables false
set_option linter.unusedSimpArgs false
open Go.RowKit Go.Proofs.Ytimdikfllbbdoaa.P Go.Proofs.Ytimdikfllbbdoaa.C Go.Proofs.YtimdikfllbbdoaaW.PrintWords Go.Proofs.YtimdikfllbbdoaaW.PrintLast Go.Proofs.YtimdikfllbbdoaaW.PrintMore

structure M where
  took : List Int
  last : Int
  fin : Bool
  all : Nat
  L : List S33
  e : Int

def nextM (q : Int) (L : List S33) (a : Nat) (t : List Int) : M :=
  if (gv (t.drop 1) 0 0).2.2 = 10 then ⟨t, q, false, a, L, 0⟩
  else if (gv (t.drop 1) 0 0).2.2 ≠ 0 then ⟨t, q, false, a, L, (gv (t.drop 1) 0 0).2.2⟩
  else if (gv (t.drop 1) 0 0).1 > 1048576 then ⟨t, q, false, a, L, 3⟩
  else if t.length < 1 + (gv (t.drop 1) 0 0).2.1 + (gv (t.drop 1) 0 0).1 + 4 then ⟨t, q, false, a, L, 0⟩
  else if (chkV t).2 = 0 then ⟨[], t.getD 0 0, false, a, L ++ [⟨t.getD 0 0, (chkV t).1.drop (1 + (gv (t.drop 1) 0 0).2.1)⟩], 0⟩
  else ⟨t, q, false, a, L, (chkV t).2⟩
def stepM (s : M) (c : Int) : M :=
  if s.e = 0 then
    if s.fin = true then ⟨s.took, s.last, s.fin, s.all + 1, s.L, 11⟩
    else if s.all < 5 then (if c = hdB.getD s.all 0 then ⟨s.took, s.last, s.fin, s.all + 1, s.L, 0⟩ else ⟨s.took, s.last, s.fin, s.all + 1, s.L, 11⟩)
    else if s.took = [] then (if c = 0 then ⟨[c], s.last, true, s.all + 1, s.L, 0⟩ else if c ≤ s.last ∨ c > 9 then ⟨[c], s.last, false, s.all + 1, s.L, 11⟩ else ⟨[c], s.last, false, s.all + 1, s.L, 0⟩)
    else nextM s.last s.L (s.all + 1) (s.took ++ [c])
  else s
def closeV (s : M) : List S33 × Int := if s.e = 0 then (if s.fin = true then (s.L, 0) else ([], 10)) else ([], s.e)

/-! ### Pure: the machine tells what is read at once -/
theorem gv_at : ∀ (l : List Int) (i n m : Nat), (gv l i n).2.2 ≠ 10 → (gv l i n).2.1 ≤ i + m → gv (l.take m) i n = gv l i n
  | [], i, n, m, h, _ => absurd rfl h
  | c :: cs, i, n, 0, h, hm => by
    have := gv_len (c :: cs) i n h
    omega
  | c :: cs, i, n, m + 1, h, hm => by
    rw [List.take_succ_cons, gv_cases, gv_cases]
    rw [gv_cases] at h hm
    by_cases h1 : 9 < i ∨ i = 9 ∧ 1 < c
    · rw [if_pos h1, if_pos h1]
    · rw [if_neg h1] at h hm ⊢
      rw [if_neg h1]
      by_cases h2 : c < 128
      · rw [if_pos h2, if_pos h2]
      · rw [if_neg h2] at h hm ⊢
        rw [if_neg h2]
        exact gv_at cs _ _ m h (by omega)
theorem err_stay (s : M) (h : s.e ≠ 0) : ∀ l : List Int, l.foldl stepM s = s
  | [] => rfl
  | c :: cs => by
    rw [List.foldl_cons, show stepM s c = s from if_neg h]
    exact err_stay s h cs
theorem close_err (s : M) (h : s.e ≠ 0) (l : List Int) : closeV (l.foldl stepM s) = ([], s.e) := by
  rw [err_stay s h l]
  exact if_neg h
theorem step_in (q : Int) (L : List S33) (a : Nat) (t : List Int) (c : Int) (ha : 5 ≤ a) (ht : t ≠ []) : stepM ⟨t, q, false, a, L, 0⟩ c = nextM q L (a + 1) (t ++ [c]) := by
  unfold stepM
  rw [if_pos rfl, if_neg (by simp), if_neg (by show ¬ a < 5; omega), if_neg ht]
theorem run_more (q : Int) (L : List S33) (c : Int) (cs : List Int) (a : Nat) (ha : 5 ≤ a) : ∀ N : Nat, N ≤ cs.length → (∀ j, 1 ≤ j → j ≤ N → nextM q L (a + j) (c :: cs.take j) = ⟨c :: cs.take j, q, false, a + j, L, 0⟩) →
    (cs.take N).foldl stepM ⟨[c], q, false, a, L, 0⟩ = ⟨c :: cs.take N, q, false, a + N, L, 0⟩
  | 0, _, _ => rfl
  | N + 1, hN, h => by
    have e : cs.take (N + 1) = cs.take N ++ [cs[N]] := by rw [List.take_add_one, List.getElem?_eq_getElem (by omega)]; rfl
    rw [e, List.foldl_append, run_more q L c cs a ha N (by omega) (fun j h1 h2 => h j h1 (by omega)), List.foldl_cons, List.foldl_nil, step_in _ _ _ _ _ (by omega) (by simp)]
    have := h (N + 1) (by omega) (by omega)
    rw [e] at this
    exact this
/-- One byte more decides. -/
theorem run_last (q : Int) (L : List S33) (c : Int) (cs : List Int) (a : Nat) (ha : 5 ≤ a) (N : Nat) (hN : N < cs.length) (h : ∀ j, 1 ≤ j → j ≤ N → nextM q L (a + j) (c :: cs.take j) = ⟨c :: cs.take j, q, false, a + j, L, 0⟩) :
    cs.foldl stepM ⟨[c], q, false, a, L, 0⟩ = (cs.drop (N + 1)).foldl stepM (nextM q L (a + (N + 1)) (c :: cs.take (N + 1))) := by
  have e : cs.take (N + 1) = cs.take N ++ [cs[N]] := by rw [List.take_add_one, List.getElem?_eq_getElem hN]; rfl
  conv => lhs; rw [← List.take_append_drop (N + 1) cs, e]
  rw [List.foldl_append, List.foldl_append, run_more q L c cs a ha N (by omega) h, List.foldl_cons, List.foldl_nil, step_in _ _ _ _ _ (by omega) (by simp), e]
  rfl
theorem next_short (q : Int) (L : List S33) (a : Nat) (c : Int) (u : List Int) (h : (gv u 0 0).2.2 = 10) : nextM q L a (c :: u) = ⟨c :: u, q, false, a, L, 0⟩ := by
  unfold nextM
  rw [List.drop_succ_cons, List.drop_zero, if_pos h]
theorem next_err (q : Int) (L : List S33) (a : Nat) (c : Int) (u : List Int) (n m : Nat) (e : Int) (h : gv u 0 0 = (n, m, e)) (h0 : e ≠ 0) (h10 : e ≠ 10) : nextM q L a (c :: u) = ⟨c :: u, q, false, a, L, e⟩ := by
  unfold nextM
  rw [List.drop_succ_cons, List.drop_zero, h, if_neg h10, if_pos h0]
theorem next_long (q : Int) (L : List S33) (a : Nat) (c : Int) (u : List Int) (n m : Nat) (h : gv u 0 0 = (n, m, 0)) (hn : n > 1048576) : nextM q L a (c :: u) = ⟨c :: u, q, false, a, L, 3⟩ := by
  unfold nextM
  rw [List.drop_succ_cons, List.drop_zero, h, if_neg (by simp), if_neg (by simp), if_pos hn]
theorem next_few (q : Int) (L : List S33) (a : Nat) (c : Int) (u : List Int) (n m : Nat) (h : gv u 0 0 = (n, m, 0)) (hn : ¬ n > 1048576) (hl : (c :: u).length < 1 + m + n + 4) : nextM q L a (c :: u) = ⟨c :: u, q, false, a, L, 0⟩ := by
  unfold nextM
  rw [List.drop_succ_cons, List.drop_zero, h, if_neg (by simp), if_neg (by simp), if_neg hn, if_pos hl]
theorem next_ok (q : Int) (L : List S33) (a : Nat) (c : Int) (u : List Int) (n m : Nat) (h : gv u 0 0 = (n, m, 0)) (hn : ¬ n > 1048576) (hl : ¬ (c :: u).length < 1 + m + n + 4) : nextM q L a (c :: u) = if (chkV (c :: u)).2 = 0 then ⟨[], c, false, a, L ++ [⟨c, (chkV (c :: u)).1.drop (1 + m)⟩], 0⟩ else ⟨c :: u, q, false, a, L, (chkV (c :: u)).2⟩ := by
  unfold nextM
  rw [List.drop_succ_cons, List.drop_zero, h, if_neg (by simp), if_neg (by simp), if_neg hn, if_neg hl]
  rfl
theorem chkV_fst (s : List Int) (i : Nat) (hi : s.length = i + 4) (h : (chkV s).2 = 0) : (chkV s).1 = s.take i := by
  unfold chkV at h ⊢
  rw [if_neg (by omega), show s.length - 4 = i by omega] at h ⊢
  by_cases hk : (le4 s i : Int) = ofV [s.take i]
  · rw [if_pos hk]
  · rw [if_neg hk] at h
    simp at h
theorem chkV_err (s : List Int) (h : (chkV s).2 ≠ 0) : True := trivial

theorem sections : ∀ (f : Nat) (l : List Int) (q : Int) (L : List S33) (a : Nat), l.length < f → 5 ≤ a → closeV (l.foldl stepM ⟨[], q, false, a, L, 0⟩) = decV f l q L
  | f + 1, [], q, L, a, _, _ => rfl
  | f + 1, c :: cs, q, L, a, hf, ha => by
    rw [List.foldl_cons]
    have hst : stepM ⟨[], q, false, a, L, 0⟩ c = if c = 0 then ⟨[c], q, true, a + 1, L, 0⟩ else if c ≤ q ∨ c > 9 then ⟨[c], q, false, a + 1, L, 11⟩ else ⟨[c], q, false, a + 1, L, 0⟩ := by
      unfold stepM
      rw [if_pos rfl, if_neg (by simp), if_neg (by show ¬ a < 5; omega), if_pos rfl]
    rw [hst]
    by_cases h0 : c = 0
    · subst h0
      rw [if_pos rfl, decV_end]
      cases cs with
      | nil => rfl
      | cons d ds =>
        rw [List.foldl_cons, show stepM ⟨[0], q, true, a + 1, L, 0⟩ d = ⟨[0], q, true, a + 1 + 1, L, 11⟩ from rfl, close_err _ (by simp)]
        rfl
    · rw [if_neg h0]
      by_cases hq : c ≤ q ∨ c > 9
      · rw [if_pos hq, close_err _ (by simp)]
        have hs : secV (c :: cs) q = (0, [], 0, 11) := by rw [secV_cons, if_neg h0, if_pos hq]
        rw [decV_err _ _ _ _ (by rw [hs]; simp), hs]
      · rw [if_neg hq]
        have hs : secV (c :: cs) q = secT c (c :: cs) (gv cs 0 0) := by rw [secV_cons, if_neg h0, if_neg hq]
        have hgl := gv_len cs 0 0
        have hgt := gv_take cs 0 0
        have hga := gv_at cs 0 0
        have hge := gv_err cs 0 0
        generalize hg : gv cs 0 0 = g at *
        obtain ⟨n, m, e⟩ := g
        simp only at hgl hgt hga hge
        by_cases h10 : e = 10
        · subst h10
          rw [secT_err _ _ _ _ _ (by omega)] at hs
          rw [decV_err _ _ _ _ (by rw [hs]; simp), hs]
          have := run_more q L c cs (a + 1) (by omega) cs.length (Nat.le_refl _) (fun j _ _ => next_short _ _ _ _ _ (hgt j (.inr rfl)))
          rw [List.take_length] at this
          rw [this]
          rfl
        · have hm := hgl h10
          have hga' := fun j (hj : m ≤ j) => hga j h10 (by omega)
          have hmore : ∀ j, j < m → (gv (cs.take j) 0 0).2.2 = 10 := fun j hj => hgt j (.inl (by omega))
          by_cases he : e = 0
          · subst he
            by_cases hn : n > 1048576
            · have hse : secT c (c :: cs) (n, m, 0) = (0, [], 0, 3) := by unfold secT; rw [if_neg (by simp), if_pos hn]
              rw [hse] at hs
              rw [decV_err _ _ _ _ (by rw [hs]; simp), hs]
              rw [run_last q L c cs (a + 1) (by omega) (m - 1) (by omega) (fun j _ h2 => next_short _ _ _ _ _ (hmore j (by omega))), show m - 1 + 1 = m by omega, next_long _ _ _ _ _ _ _ (hga' m (Nat.le_refl _)) hn, close_err _ (by simp)]
            · have hfew : ∀ j, m ≤ j → j < m + n + 4 → j ≤ cs.length → ∀ a', nextM q L a' (c :: cs.take j) = ⟨c :: cs.take j, q, false, a', L, 0⟩ := fun j h1 h2 h3 a' => next_few _ _ _ _ _ _ _ (hga' j h1) hn (by rw [List.length_cons, List.length_take]; omega)
              have hall : ∀ j, j < m + n + 4 → j ≤ cs.length → ∀ a', nextM q L a' (c :: cs.take j) = ⟨c :: cs.take j, q, false, a', L, 0⟩ := fun j h2 h3 a' => by
                by_cases hj : j < m
                · exact next_short _ _ _ _ _ (hmore j hj)
                · exact hfew j (by omega) h2 h3 a'
              by_cases hlen : cs.length < m + n + 4
              · rw [secT_short _ _ _ _ (by omega) (by rw [List.length_cons]; omega)] at hs
                rw [decV_err _ _ _ _ (by rw [hs]; simp), hs]
                have := run_more q L c cs (a + 1) (by omega) cs.length (Nat.le_refl _) (fun j _ h2 => hall j (by omega) h2 _)
                rw [List.take_length] at this
                rw [this]
                rfl
              · rw [run_last q L c cs (a + 1) (by omega) (m + n + 3) (by omega) (fun j _ h2 => hall j (by omega) (by omega) _)]
                have htk : (c :: cs).take (1 + m + n + 4) = c :: cs.take (m + n + 3 + 1) := by rw [show 1 + m + n + 4 = m + n + 3 + 1 + 1 by omega, List.take_succ_cons]
                have hl2 : (c :: cs.take (m + n + 3 + 1)).length = 1 + m + n + 4 := by rw [List.length_cons, List.length_take]; omega
                rw [next_ok _ _ _ _ _ n m (hga' _ (by omega)) hn (by rw [hl2]; omega)]
                by_cases hck : (chkV (c :: cs.take (m + n + 3 + 1))).2 = 0
                · have hfst := chkV_fst _ (1 + m + n) hl2 hck
                  have hst := secT_ok c (c :: cs) n m (by omega) (by rw [List.length_cons]; omega) (chkV (c :: cs.take (m + n + 3 + 1))).1 (by rw [htk]; exact Prod.ext rfl hck)
                  rw [hst] at hs
                  rw [if_pos hck, decV_ok f _ q c _ _ L hs h0]
                  have hdr : (c :: cs).drop (1 + m + n + 4) = cs.drop (m + n + 3 + 1) := by rw [show 1 + m + n + 4 = m + n + 3 + 1 + 1 by omega, List.drop_succ_cons]
                  have hbd : (chkV (c :: cs.take (m + n + 3 + 1))).1.drop (1 + m) = ((c :: cs).take (1 + m + n)).drop (1 + m) := by
                    rw [hfst, ← htk, List.take_take, show min (1 + m + n) (1 + m + n + 4) = 1 + m + n by omega]
                  rw [hdr, hbd]
                  exact sections f _ c _ _ (by rw [List.length_drop]; simp only [List.length_cons] at hf; omega) (by omega)
                · rw [if_neg hck, close_err _ hck]
                  have hse : secT c (c :: cs) (n, m, 0) = (0, [], 0, (chkV (c :: cs.take (m + n + 3 + 1))).2) := by
                    unfold secT
                    rw [if_neg (by simp), if_neg hn, if_neg (show ¬ (1 + m + n + 4 > (c :: cs).length) by rw [List.length_cons]; omega), htk, if_neg hck]
                  rw [hse] at hs
                  rw [decV_err _ _ _ _ (by rw [hs]; exact hck), hs]
          · rw [secT_err _ _ _ _ _ he] at hs
            rw [decV_err _ _ _ _ (by rw [hs]; exact he), hs]
            rw [run_last q L c cs (a + 1) (by omega) (m - 1) (by omega) (fun j _ h2 => next_short _ _ _ _ _ (hmore j (by omega))), show m - 1 + 1 = m by omega, next_err _ _ _ _ _ _ _ _ (hga' m (Nat.le_refl _)) he h10, close_err _ he]
theorem heads : ∀ (r l : List Int) (i : Nat) (f : Nat), i + r.length = 5 → r = hdB.drop i → l.length < f + r.length →
    closeV (l.foldl stepM ⟨[], 0, false, i, [], 0⟩) = if hdL r l = 0 then decV f (l.drop r.length) 0 [] else ([], hdL r l)
  | [], l, i, f, hi, hr, hl => by
    have : i = 5 := by simpa using hi
    subst this
    rw [sections f l 0 [] 5 (by simpa using hl) (Nat.le_refl _)]
    have e : hdL [] l = 0 := by cases l <;> rfl
    rw [e, if_pos rfl]
    rfl
  | c :: r, [], i, f, hi, hr, hl => rfl
  | c :: r, x :: l, i, f, hi, hr, hl => by
    have hi5 : i < 5 := by simp only [List.length_cons] at hi; omega
    have hcd : hdB.getD i 0 = c ∧ hdB.drop (i + 1) = r := by
      have e1 : (hdB.drop i)[0]? = some c := by rw [← hr]; rfl
      have e2 : (hdB.drop i).drop 1 = r := by rw [← hr]; rfl
      rw [List.drop_drop] at e2
      rw [List.getElem?_drop, Nat.add_zero] at e1
      exact ⟨by simp [List.getD, e1], e2⟩
    rw [List.foldl_cons]
    have hst : stepM ⟨[], 0, false, i, [], 0⟩ x = if x = c then ⟨[], 0, false, i + 1, [], 0⟩ else ⟨[], 0, false, i + 1, [], 11⟩ := by
      unfold stepM
      rw [if_pos rfl, if_neg (by simp), if_pos (by exact hi5), hcd.1]
    rw [hst, hdL]
    by_cases hx : x = c
    · rw [if_pos hx, if_pos hx, heads r l (i + 1) f (by simp only [List.length_cons] at hi; omega) hcd.2.symm (by simp only [List.length_cons] at hl; omega)]
      rfl
    · rw [if_neg hx, if_neg hx, close_err _ (by simp), if_neg (by omega)]
theorem machine (b : List Int) : closeV (b.foldl stepM ⟨[], 0, false, 0, [], 0⟩) = decW b := by
  unfold decW
  exact heads hdB b 0 (b.length + 1) rfl rfl (by omega)
end Go.Proofs.Ytimdikfllbbdoaa.Fv
