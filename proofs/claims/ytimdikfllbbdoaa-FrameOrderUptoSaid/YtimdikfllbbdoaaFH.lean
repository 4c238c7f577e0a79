/- A row of bytes that a call owns, or that is a constant's bytes as '[]byte("..")' lays them: full, and marked one place behind its end. -/
import Derived.Test.YtimdikfllbbdoaaV0
import Derived.Lib.SlBytesConst
namespace Go.Proofs.Ytimdikfllbbdoaa.Fz
open Go Go.RowKit Go.Proofs.YtimdikfllbbdoaaW.PrintWords Go.Proofs.YtimdikfllbbdoaaW.PrintLast Go.Proofs.YtimdikfllbbdoaaW.PrintMore
set_option linter.unusedVariables false

def FR (w : World) (base : Nat) (ok : Nat → Prop) (v : Value) (xs : List Int) : Prop :=
  0 < xs.length ∧ xs.length ≤ 1000 ∧ ∃ g, v = .slice (some ⟨g, 0, none⟩) xs.length xs.length ∧ base ≤ g ∧ ok g ∧ w.heap[g]? = some (.cells (xs.map (Value.int .u8)).toArray 5 (xs.length, xs.length + 1))

def RH (w : World) (base : Nat) (ok : Nat → Prop) (v : Value) (xs : List Int) : Prop := (Kd.int .u8).R 5 w base ok v xs ∨ FR w base ok v xs

section
variable {w w1 W : World} {base : Nat} {ok ok' : Nat → Prop} {v u : Value} {xs ys : List Int}
theorem FR_step (h : FR w base ok v xs) (hm : ∀ k, ok k → k < w.heap.size → w1.heap[k]? = w.heap[k]?) : FR w1 base ok v xs := by
  obtain ⟨h0, h1, g, hv, hb, ho, hg⟩ := h
  exact ⟨h0, h1, g, hv, hb, ho, (hm g ho (Array.getElem?_eq_some_iff.1 hg).1).trans hg⟩
theorem FR_mono (h : FR w base ok v xs) (hok : ∀ k, ok k → ok' k) : FR w base ok' v xs := by
  obtain ⟨h0, h1, g, hv, hb, ho, hg⟩ := h
  exact ⟨h0, h1, g, hv, hb, hok g ho, hg⟩
theorem RH_R (h : (Kd.int .u8).R 5 w base ok v xs) : RH w base ok v xs := .inl h
theorem RH_below (h : RH w base ok v xs) (hb : Below w.heap.size w w1) : RH w1 base ok v xs :=
  h.elim (fun h => .inl (Kd.R_below h hb)) (fun h => .inr (FR_step h (fun k _ hk => hb.block k hk)))
theorem RH_alloc (h : RH w base ok v xs) (o : Obj) : RH (w.alloc o) base ok v xs := RH_below h (below_alloc (Below.refl _ _) o)
theorem RH_drewN (h : RH w base ok v xs) (m : Nat) : RH (w.drewN m) base ok v xs := RH_below h (pw_below_drewN (Below.refl _ _) m)
theorem RH_drew (h : RH w base ok v xs) : RH w.drew base ok v xs := RH_below h (below_drew (Below.refl _ _))
theorem RH_mono (h : RH w base ok v xs) (hok : ∀ k, ok k → ok' k) : RH w base ok' v xs := h.elim (fun h => .inl (Kd.R_mono h hok)) (fun h => .inr (FR_mono h hok))
theorem RH_lower {base' : Nat} (h : RH w base ok v xs) (hb : base' ≤ base) : RH w base' ok v xs := h.elim (fun h => .inl (Kd.R_lower h hb)) (fun ⟨h0, h1, g, hv, hbg, ho, hg⟩ => .inr ⟨h0, h1, g, hv, Nat.le_trans hb hbg, ho, hg⟩)
theorem RH_far (h : RH w base ok v xs) {p : Addr} (hok : ∀ k, ok k → k ≠ p.block) (u : Value) : RH (w.setCell p u) base ok v xs :=
  h.elim (fun h => .inl (Kd.R_far h hok u)) (fun h => .inr (FR_step h (fun k ho _ => Below.heap_setCell w p u k (hok k ho))))
theorem FR_type {g t : Nat} {cells : Array Value} {fz : Nat × Nat} (h : FR w base ok v xs) (hb : w.heap[g]? = some (.cells cells t fz)) (ht : 5 ≠ t) : some g ≠ v.ownBlock := by
  obtain ⟨h0, h1, g', rfl, hbg, ho, hg⟩ := h
  intro he
  have : g = g' := by simpa [Value.ownBlock] using he
  subst this
  rw [hg] at hb
  injection hb with hb
  injection hb with _ h2
  exact ht h2
theorem RH_types (h : RH w base ok v xs) {g t : Nat} {cells : Array Value} (hb : w.heap[g]? = some (.cells cells t (0, 0))) (ht : ∀ q, q ∈ (5 : Nat) :: (Kd.int .u8).E → q ≠ t) : RH w base (fun k => ok k ∧ k ≠ g) v xs := by
  rcases h with h | h
  · exact .inl (Kd.R_types h hb ht)
  · have hne := FR_type h hb (ht 5 (List.mem_cons_self))
    obtain ⟨h0, h1, g', rfl, hbg, ho, hg⟩ := h
    exact .inr ⟨h0, h1, g', rfl, hbg, ⟨ho, fun e => hne (by simp [Value.ownBlock, e])⟩, hg⟩
theorem RH_ne (h : RH w base ok v xs) {g t : Nat} {cells : Array Value} (hb : w.heap[g]? = some (.cells cells t (0, 0))) (ht : 5 ≠ t) : some g ≠ v.ownBlock :=
  h.elim (fun h => Kd.R_ne h hb ht) (fun h => FR_type h hb ht)
theorem RH_lt (h : RH w base ok v xs) : ∀ k, v.ownBlock = some k → k < w.heap.size := by
  rcases h with h | ⟨h0, h1, g, rfl, hbg, ho, hg⟩
  · exact Kd.R_lt h
  · intro k hk
    have : g = k := by simpa [Value.ownBlock] using hk
    subst this
    exact (Array.getElem?_eq_some_iff.1 hg).1
theorem RH_base (h : RH w base ok v xs) : ∀ k, v.ownBlock = some k → base ≤ k := by
  rcases h with h | ⟨h0, h1, g, rfl, hbg, ho, hg⟩
  · exact Kd.R_base h
  · intro k hk
    have : g = k := by simpa [Value.ownBlock] using hk
    subst this
    exact hbg
theorem RH_elder' (hu : RH W base ok u xs) (hbase : ∀ k, v.ownBlock = some k → W.heap.size ≤ k) (hb : Below W.heap.size W w1) : RH w1 base (fun k => ok k ∧ some k ≠ v.ownBlock) u xs := by
  rcases hu with h | h
  · exact .inl (Kd.R_elder' h hbase hb)
  · have h2 := FR_step h (fun k _ hk => hb.block k hk)
    obtain ⟨h0, h1, g, rfl, hbg, ho, hg⟩ := h2
    obtain ⟨_, _, g', e, _, _, hg'⟩ := h
    have hgg : g' = g := by injection e with e; injection e with e; injection e with e; exact e.symm
    subst hgg
    refine .inr ⟨h0, h1, g', rfl, hbg, ⟨ho, fun he => ?_⟩, hg⟩
    have := hbase g' he.symm
    have := (Array.getElem?_eq_some_iff.1 hg').1
    omega
theorem RH_slice (h : RH w base ok v xs) : ∃ A c, v = .slice A xs.length c := h.elim Kd.R_slice (fun ⟨_, _, g, hv, _⟩ => ⟨_, _, hv⟩)
end

section
variable {P : Program} {ops : Array Oper} {rest : List Oper} {o : Oper} {a : Act} {Q : Exit → Act → World → Prop} {w0 W : World}
theorem FR_cells {base : Nat} {ok : Nat → Prop} {v : Value} {xs : List Int} (h : FR W base ok v xs) : ∃ g, v = .slice (some ⟨g, 0, none⟩) xs.length xs.length ∧ ∀ j u, (xs.map (Value.int .u8))[j]? = some u → W.cell? ((⟨g, 0, none⟩ : Addr).add j) = some u := by
  obtain ⟨h0, h1, g, rfl, hbg, ho, hg⟩ := h
  refine ⟨g, rfl, fun j u hu => ?_⟩
  have hadd : (⟨g, 0, none⟩ : Addr).add j = ⟨g, j, none⟩ := by unfold Addr.add; split <;> simp_all
  rw [hadd, cell_of_row W g j _ 5 _ hg]
  simpa using hu

/-- The row behind an append that finds no room: new memory. -/
theorem FR_grow (base : Nat) (t : TypeId) (oty : TypeId) (i0 : TypeInfo) (ht : P.underlying t = some (.slice 5)) (hi : P.info? 5 = some i0) (hz0 : i0.zero = some (.int .u8 0)) (hz1 : i0.size = 1) (hz2 : i0.bytes = 1)
    (v : Value) (xs ys : List Int) (ok : Nat → Prop) (ad : Addr) (m c : Nat) (hm : ys.length = m) (hm0 : 0 < m) (hnews : ∀ j u, (ys.map (Value.int .u8))[j]? = some u → W.cell? (ad.add j) = some u)
    (HO : FR W base ok v xs) (hfresh : ∀ k, W.heap.size ≤ k → ok k) (hbase : base ≤ W.heap.size) (hl : xs.length + m ≤ 140737488355328) :
    ∃ v1 w1, (Builtin.append_ #[t, t] oty #[v, .slice (some ad) m c]).run P W = .ok v1 w1 ∧ (Kd.int .u8).R 5 w1 base ok v1 (xs ++ ys) ∧ W.grownBy w1 v.ownBlock ∧ ∃ b, v1.ownBlock = some b ∧ W.heap.size ≤ b := by
  obtain ⟨g, rfl, hc⟩ := FR_cells HO
  have hr := run_append_grow (P := P) W t oty 5 i0 (.int .u8 0) ht hi hz0 ⟨g, 0, none⟩ xs.length xs.length (xs.map (Value.int .u8)) (by rw [hz1]; simp) hc ad m c (ys.map (Value.int .u8)) (by rw [hz1, List.length_map, hm, Nat.mul_one]) hnews (by omega) (by omega) (by rw [hz2]; exact growslice_fits (by omega) (by omega))
  have hge := grownCap_ge W (xs.length + m) xs.length 5
  have hcm : grownCap W (xs.length + m) xs.length 5 ≤ maxLen := grownCap_le_maxLen W (xs.length + m) xs.length 5 (by simp only [maxLen]; omega)
  refine ⟨_, _, hr, ⟨fun k hk => ?_, (xs.map (Value.int .u8)) ++ ys.map (Value.int .u8), ⟨?_, .inr ⟨W.heap.size, _, _, ?_, hbase, heap_alloc_new W.drew _, ?_, hcm, ?_, ?_⟩⟩, ?_⟩, ⟨rfl, rfl, rfl, by simp, fun k hk _ => heap_alloc_old W.drew _ hk⟩, ⟨_, rfl, Nat.le_refl _⟩⟩
  · have : W.heap.size = k := by simpa [Value.ownBlock] using hk
    subst this
    exact hfresh _ (Nat.le_refl _)
  · rw [List.length_append, List.length_map, List.length_map, List.length_append]
    show _ = _ * 1
    omega
  · rw [List.length_append, hm]
  · rw [List.length_append, hm]; exact hge
  · have hz1 : (Value.int IntKind.u8 0).cells.size = 1 := rfl
    have hs1 : (Kd.int .u8).sz = 1 := rfl
    rw [hs1]
    simp only [Array.size_append, List.size_toArray, List.length_map, size_zeroCells, hz1, hm]
    omega
  · have hs1 : (Kd.int .u8).sz = 1 := rfl
    rw [hs1]
    simp only [Array.toList_append, List.append_assoc]
    rw [← List.append_assoc, show (xs ++ ys).length * 1 = (xs.map (Value.int .u8) ++ ys.map (Value.int .u8)).length by simp]
    exact List.take_left
  · rw [show xs.map (Value.int .u8) ++ ys.map (Value.int .u8) = encs (Value.int .u8) (xs ++ ys) by simp [encs]]
    exact Kd.reps_scalar (enc := Value.int .u8) (xs ++ ys)

theorem RH_append_rows {w0 W : World} (base : Nat) (hgd : o.guard = none) (s x : Operand) (t : TypeId)
    (ho : o.op = .call { callee := .builtin .append, args := #[s, x], argTypes := #[t, t] })
    (ht : P.underlying t = some (.slice 5)) (hinfo : (P.info? 5).map (fun i => (i.zero, i.size, i.bytes)) = some (some (.int .u8 0), 1, 1))
    (v : Value) (xs ys : List Int) (A : Option Addr) (m c : Nat) (ok : Nat → Prop) (hs : a.eval s = v) (hx : a.eval x = .slice A m c)
    (HO : RH W base ok v xs) (HR : (Kd.int .u8).C W A m ys) (hfresh : ∀ k, W.heap.size ≤ k → ok k)
    (HB : Below base w0 W) (hbase : base ≤ W.heap.size) (hl : xs.length + m ≤ 140737488355328)
    (h : ∀ v1 w1, RH w1 base ok v1 (xs ++ ys) → Below base w0 w1 → W.grownBy w1 v.ownBlock → (v1.ownBlock = v.ownBlock ∨ ∃ b, v1.ownBlock = some b ∧ W.heap.size ≤ b) → wpList P ops Q rest (a.put o.dst v1) w1) :
    wpList P ops Q (o :: rest) a W := by
  rcases HO with HO | HO
  · exact Kd.R_append_rows (Kd.int .u8) (w0 := w0) base hgd s x t 5 (.int .u8 0) 1 ho ht hinfo rfl (by decide) (by omega) v xs ys A m c ok (fun _ => False) hs hx HO HR (fun _ _ h => h) (fun _ h => h.elim) hfresh HB hbase (by rw [Nat.mul_one]; exact hl) (fun v1 w1 h1 h2 h3 h4 => h v1 w1 (.inl h1) h2 h3 h4)
  · obtain ⟨i0, hi, hzz⟩ := Option.map_eq_some_iff.1 hinfo
    simp only [Prod.mk.injEq] at hzz
    obtain ⟨hz0, hz1, hz2⟩ := hzz
    have hm : ys.length = m := HR.1
    have hrun : ∃ v1 w1, (Builtin.append_ #[t, t] o.type #[v, .slice A m c]).run P W = .ok v1 w1 ∧ RH w1 base ok v1 (xs ++ ys) ∧ W.grownBy w1 v.ownBlock ∧ (v1.ownBlock = v.ownBlock ∨ ∃ b, v1.ownBlock = some b ∧ W.heap.size ≤ b) := by
      rcases Nat.eq_zero_or_pos m with h0 | h0
      · subst h0
        obtain rfl : ys = [] := List.eq_nil_of_length_eq_zero hm
        refine ⟨v, W, ?_, by rw [List.append_nil]; exact .inr HO, World.grownBy.refl W _, .inl rfl⟩
        obtain ⟨g, rfl, hc⟩ := FR_cells HO
        rcases A with _ | ad
        · simp [Builtin.append_, run_underlying ht, sizeOf, typeInfo, hi, Builtin.lenOf, Builtin.firstCells, storeCells]
        · simp [Builtin.append_, run_underlying ht, sizeOf, typeInfo, hi, Builtin.lenOf, Builtin.firstCells, loadCells, loadCellsFrom, storeCells]
      · obtain ⟨ad, rfl, _⟩ := HR.2.2 h0
        obtain ⟨news, hnr, hnc⟩ := ReadsRow.inner_ HR
        have hnw : news = ys.map (Value.int .u8) := by
          refine List.ext_getElem? fun j => ?_
          by_cases hj : j < ys.length
          · have h1 := hnr.2 j _ (List.getElem?_eq_getElem hj)
            have h2 : (news.drop (j * 1)).take 1 = [Value.int .u8 ys[j]] := h1
            rw [Nat.mul_one] at h2
            have h3 := congrArg (fun l => l[0]?) h2
            simp at h3
            rw [h3, List.getElem?_map, List.getElem?_eq_getElem hj]
            rfl
          · have hl2 : news.length = ys.length * 1 := hnr.1
            rw [List.getElem?_eq_none (by omega), List.getElem?_eq_none (by simp; omega)]
        subst hnw
        obtain ⟨v1, w1, h1, h2, h3, h4⟩ := FR_grow (P := P) base t o.type i0 ht hi hz0 hz1 hz2 v xs ys ok ad m c hm h0 hnc HO hfresh hbase hl
        exact ⟨v1, w1, h1, .inl h2, h3, .inr h4⟩
    obtain ⟨v1, w1, hr, h2, h3, h4⟩ := hrun
    refine wpList_plain hgd fun K hK => ?_
    unfold Oper.wp execOp
    simp only [ho, resolve, invoke, builtin, Sem.run_bind, Sem.run_pure, Result.andThen_ok, List.map_toArray, List.map_cons, List.map_nil, hs, hx, hr]
    exact hK _ _ (h v1 w1 h2 (HB.grown h3 hbase (fun k hk => RH_base (.inr HO) k hk)) h3 h4)

theorem RH_append {w0 W : World} (base : Nat) (hgd : o.guard = none) (s x : Operand) (t : TypeId)
    (ho : o.op = .call { callee := .builtin .append, args := #[s, x], argTypes := #[t, t] })
    (ht : P.underlying t = some (.slice 5)) (hinfo : (P.info? 5).map (fun i => (i.zero, i.size, i.bytes)) = some (some (.int .u8 0), 1, 1))
    (v : Value) (xs : List Int) (p : Int) (ok : Nat → Prop) (hs : a.eval s = v) (hx : a.eval x = .slice (some ⟨W.heap.size, 0, none⟩) 1 1) (hfresh : ∀ k, W.heap.size ≤ k → ok k)
    (HO : RH W base ok v xs) (HB : Below base w0 W) (hbase : base ≤ W.heap.size) (hl : xs.length + 1 ≤ 140737488355328)
    (h : ∀ v1 w1, (Kd.int .u8).R 5 w1 base ok v1 (xs ++ [p]) → Below base w0 w1 → W.grownBy w1 v.ownBlock → (v1.ownBlock = v.ownBlock ∨ ∃ b, v1.ownBlock = some b ∧ W.heap.size ≤ b) → wpList P ops Q rest (a.put o.dst v1) w1) :
    wpList P ops Q (o :: rest) a (W.alloc (.cells #[.int .u8 p] 5)) := by
  rcases HO with HO | HO
  · exact Kd.R_append (Kd.int .u8) (w0 := w0) base hgd s x t 5 (.int .u8 0) 1 ho ht hinfo rfl (by decide) (by omega) v xs p [.int .u8 p] ok (fun _ => False) hs hx rfl (fun _ h => h.elim) hfresh HO HB hbase (by rw [Nat.mul_one]; exact hl) h
  · obtain ⟨i0, hi, hzz⟩ := Option.map_eq_some_iff.1 hinfo
    simp only [Prod.mk.injEq] at hzz
    obtain ⟨hz0, hz1, hz2⟩ := hzz
    have HO2 : FR (W.alloc (.cells #[.int .u8 p] 5)) base ok v xs := FR_step HO (fun k _ hk => heap_alloc_old W _ hk)
    obtain ⟨v1, w1, h1, h2, h3, b, hb, hle⟩ := FR_grow (P := P) base t o.type i0 ht hi hz0 hz1 hz2 v xs [p] ok ⟨W.heap.size, 0, none⟩ 1 1 rfl (by omega) (by simpa using World.news_of_block (cs := #[Value.int .u8 p]) (t := 5) (fr := (0, 0)) (heap_alloc_new W (.cells #[Value.int .u8 p] 5))) HO2 (fun k hk => hfresh k (by simp at hk; omega)) (by simp; omega) (by omega)
    refine wpList_plain hgd fun K hK => ?_
    unfold Oper.wp execOp
    simp only [ho, resolve, invoke, builtin, Sem.run_bind, Sem.run_pure, Result.andThen_ok, List.map_toArray, List.map_cons, List.map_nil, hs, hx, h1]
    refine hK _ _ (h v1 w1 h2 ((HB.alloc hbase _).grown h3 (by simp; omega) (fun k hk => RH_base (.inr HO) k hk)) (World.grownBy.trans (World.grownBy_alloc W _ _) h3) (.inr ⟨b, hb, by simp at hle; omega⟩))
end
end Go.Proofs.Ytimdikfllbbdoaa.Fz
