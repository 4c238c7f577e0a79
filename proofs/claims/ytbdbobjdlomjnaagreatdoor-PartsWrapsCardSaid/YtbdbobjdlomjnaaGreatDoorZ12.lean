/- The walk over a mesh of nothing: no step. No condition. What is foretold of a mesh of nothing: no rest. No condition. Split where the count of rows is not to be read. No condition. Written for this claim by a program of this session (a turned copy of the print): Go functions as Lean functions, and that the Go code comes to just these answers; or a statement proved out of them. No condition. -/
import Derived.Test.YtbdbobjdlomjnaaGreatDoorZ11
import Derived.Test.YtbdbobjdlomjnaaGreatDoorZ2
import Derived.Test.YtbdbobjdlomjnaaGreatDoorZ8

namespace Go.Proofs.YtbdbobjdlomjnaaGreatDoor.Ec
set_option linter.unusedVariables false
set_option linter.unusedSimpArgs false
open Go Go.RowKit Go.Proofs.YtbdbobjdlomjnaaGreatDoor.P Go.Proofs.YtbdbobjdlomjnaaGreatDoor.X Go.Proofs.YtbdbobjdlomjnaaGreatDoorW.PrintWords Go.Proofs.YtbdbobjdlomjnaaGreatDoorW.PrintLast Go.Proofs.YtbdbobjdlomjnaaGreatDoorW.PrintMore
set_option maxHeartbeats 8000000
set_option maxRecDepth 100000
def wk0 (a b c : Value) : Array Value := #[.slice none 0 0, .slice none 0 0, a, b, c, .slice none 0 0, .slice none 0 0, .slice none 0 0, .slice none 0 0, .slice none 0 0]
theorem begun0_calls (w : World) :
  Calls Tryz.prog 128 #[.agg #[.slice none 0 0, .slice none 0 0]] w fun e w' => (∃ h a b c, e = .returned (.tuple #[.pointer (some ⟨h, 0, none⟩), .int .i64 0]) ∧ w'.heap[h]? = some (.cells (wk0 a b c) 150 (0, 0))) ∧ Below w.heap.size w w' := by
 have hu := Tryz.underlying25
 have hu2 := Tryz.underlying150
 have hck := fun W => check0_calls W
 go_enter Tryz.func128, Tryz.ntmps128
 go_upto_region 1 with (fail)
 have hb : Below w.heap.size w (w.alloc (.cells #[.slice none 0 0, .slice none 0 0] 25)) := below_alloc (Below.refl _ w) _
 have hg := heap_alloc_new w (.cells #[.slice none 0 0, .slice none 0 0] 25)
 generalize w.alloc (.cells #[.slice none 0 0, .slice none 0 0] 25) = w1 at hb hg ⊢
 have y0 : w1.cell? ⟨w.heap.size, 0, none⟩ = some (.slice none 0 0) := (blk_cell hg 0).trans rfl
 have y1 : w1.cell? ⟨w.heap.size, 1, none⟩ = some (.slice none 0 0) := (blk_cell hg 1).trans rfl
 go_upto_region 4 with (go_at_call 143; refine (hck _).mono ?_; rintro e w5 ⟨rfl, hb5⟩)
 have hB5 := below_step hb hb5
 have hg5 := blk_below hg hb5
 clear y0 y1 hb5 hg hck
 have hmm := @run_makeMap Tryz.prog
 have hmk := print_make (P := Tryz.prog) 83 3 .i64 8 Tryz.underlying83 (by kernel_rfl) (by decide) 0 (by omega)
 have hmb := fun W : World => run_make_row' (P := Tryz.prog) 148 4 (.bool false) 1 Tryz.underlying148 (by kernel_rfl) rfl .i64 .i64 0 (by omega) (by omega) W
 rw [show ((0 : Nat) : Int) = 0 from rfl] at hmk
 simp only [show ((0 : Nat) : Int) = 0 from rfl] at hmb
 obtain ⟨g0, hg0⟩ : ∃ g0, g0 = w.heap.size := ⟨_, rfl⟩
 rw [← hg0] at hg5 ⊢
 have HG0 := Aside0.mk hg0
 clear hg0
 have y0 : w5.cell? ⟨g0, 0, none⟩ = some (.slice none 0 0) := (blk_cell hg5 0).trans rfl
 have y1 : w5.cell? ⟨g0, 1, none⟩ = some (.slice none 0 0) := (blk_cell hg5 1).trans rfl
--REGION4
 refine start_ (n := 13) (S := fun w' => w'.cell? ⟨g0, 0, none⟩ = some (.slice none 0 0) ∧ w'.cell? ⟨g0, 1, none⟩ = some (.slice none 0 0)) (ds := []) #[false, false, false, false, false, false, false, false, false, false, false, false, false] (by kernel_rfl) rfl rfl ⟨y0, y1⟩ (fun hHeld => ?_)
 refine pure_ (i := 2) (N := some 16) (v := ?_) (a' := ?_) #[false, false, true, false, false, false, false, false, false, false, false, false, false] rfl rfl (by kernel_rfl) (fun _ _ _ h => h) (Or.inl ⟨by rfl, ?_⟩) ?_ ?_
 rotate_left
 ·intro w'
  go_simp
  with_reducible rfl
 rotate_left
 ·simp only [Act.put, List.setIfInBounds_toArray, List.set_cons_zero, List.set_cons_succ, i64_w, i32_w]
  rfl
 refine pure_ (i := 6) (N := some 20) (v := ?_) (a' := ?_) #[false, false, true, false, false, false, true, false, false, false, false, false, false] rfl rfl (by kernel_rfl) (fun _ _ _ h => h) (Or.inl ⟨by rfl, ?_⟩) ?_ ?_
 rotate_left
 ·intro w'
  go_simp
  with_reducible rfl
 rotate_left
 ·simp only [Act.put, List.setIfInBounds_toArray, List.set_cons_zero, List.set_cons_succ, i64_w, i32_w]
  rfl
 refine take_ (i := 0) (N := some 14) (v := ?_) (a' := ?_) #[true, false, true, false, false, false, true, false, false, false, false, false, false] rfl rfl (by kernel_rfl) (fun _ _ _ h => h) (Or.inl ⟨by rfl, ?_⟩) hHeld ?_ ?_
 rotate_left
 ·rintro w' ⟨s0, s1⟩
  go_simp
  with_reducible rfl
 rotate_left
 ·simp only [Act.put, List.setIfInBounds_toArray, List.set_cons_zero, List.set_cons_succ, i64_w, i32_w]
  rfl
 refine take_ (i := 3) (N := some 17) (v := ?_) (a' := ?_) #[true, false, true, true, false, false, true, false, false, false, false, false, false] rfl rfl (by kernel_rfl) (fun _ _ _ h => h) (Or.inl ⟨by rfl, ?_⟩) hHeld ?_ ?_
 rotate_left
 ·rintro w' ⟨s0, s1⟩
  go_simp
  with_reducible rfl
 rotate_left
 ·simp only [Act.put, List.setIfInBounds_toArray, List.set_cons_zero, List.set_cons_succ, i64_w, i32_w]
  rfl
 refine pure_ (i := 4) (N := some 18) (v := ?_) (a' := ?_) #[true, false, true, true, true, false, true, false, false, false, false, false, false] rfl rfl (by kernel_rfl) (fun _ _ _ h => h) (Or.inl ⟨by rfl, ?_⟩) ?_ ?_
 rotate_left
 ·intro w'
  go_simp
  with_reducible rfl
 rotate_left
 ·simp only [Act.put, List.setIfInBounds_toArray, List.set_cons_zero, List.set_cons_succ, i64_w, i32_w]
  rfl
 refine take_ (i := 7) (N := some 21) (v := ?_) (a' := ?_) #[true, false, true, true, true, false, true, true, false, false, false, false, false] rfl rfl (by kernel_rfl) (fun _ _ _ h => h) (Or.inl ⟨by rfl, ?_⟩) hHeld ?_ ?_
 rotate_left
 ·rintro w' ⟨s0, s1⟩
  go_simp
  with_reducible rfl
 rotate_left
 ·simp only [Act.put, List.setIfInBounds_toArray, List.set_cons_zero, List.set_cons_succ, i64_w, i32_w]
  rfl
 refine pure_ (i := 8) (N := some 22) (v := ?_) (a' := ?_) #[true, false, true, true, true, false, true, true, true, false, false, false, false] rfl rfl (by kernel_rfl) (fun _ _ _ h => h) (Or.inl ⟨by rfl, ?_⟩) ?_ ?_
 rotate_left
 ·intro w'
  go_simp
  with_reducible rfl
 rotate_left
 ·simp only [Act.put, List.setIfInBounds_toArray, List.set_cons_zero, List.set_cons_succ, i64_w, i32_w]
  rfl
 refine join_ (σ := Nat × Nat × Nat) 3 #[true, true, true, true, true, true, true, true, true, true, false, false, false] (fun s_ => [(15, .map (some s_.1)), (19, .slice (some ⟨s_.2.1, 0, none⟩) 0 0), (23, .slice (some ⟨s_.2.2, 0, none⟩) 0 0)]) (fun s_ w' => Below w5.heap.size w5 w') ?_ ?_
 rotate_left
 ·intro hCont
  refine three_ (i := 1) (j := 5) (k := 9) (Ni := some 15) (Nj := some 19) (Nk := some 23) #[true, true, true, true, true, false, true, true, true, false, false, false, false] #[true, false, true, true, true, true, true, true, true, false, false, false, false] #[true, false, true, true, true, false, true, true, true, true, false, false, false] rfl rfl rfl rfl rfl rfl (by kernel_rfl) (by decide) (by decide) (by decide) (fun K hK => ?_) (fun K hK => ?_) (fun K hK => ?_)
  ·skip
   refine value_ (w1 := ?_) (v := ?_) (by rfl) rfl ?_ ?_
   rotate_left 2
   ·go_simp
    constructor
    ·rfl
    ·rfl
   refine hK.out _ _ ⟨(((Below.refl _ _).alloc (Nat.le_refl _) _).cell (World.block_lt_of_cell? _ _ hHeld.1)).trans hHeld.1, (((Below.refl _ _).alloc (Nat.le_refl _) _).cell (World.block_lt_of_cell? _ _ hHeld.2)).trans hHeld.2⟩ (fun hHeld => ?_)
   clear hK K
   refine norm_ (a' := ?_) ?_ ?_
   rotate_left
   ·show Act.put _ (some 15) _ = _
    simp only [Act.put, List.setIfInBounds_toArray, List.set_cons_zero, List.set_cons_succ, i64_w, i32_w]
    rfl
   refine two_ (i := 5) (j := 9) (Ni := some 19) (Nj := some 23) #[true, true, true, true, true, true, true, true, true, false, false, false, false] #[true, true, true, true, true, false, true, true, true, true, false, false, false] rfl rfl rfl rfl (by kernel_rfl) (by decide) (by decide) (fun K hK => ?_) (fun K hK => ?_)
   ·skip
    refine value_ (w1 := ?_) (v := ?_) (by rfl) rfl ?_ ?_
    rotate_left 2
    ·go_simp
     constructor
     ·rfl
     ·rfl
    refine hK.out _ _ ⟨(((Below.refl _ _).alloc (Nat.le_refl _) _).cell (World.block_lt_of_cell? _ _ hHeld.1)).trans hHeld.1, (((Below.refl _ _).alloc (Nat.le_refl _) _).cell (World.block_lt_of_cell? _ _ hHeld.2)).trans hHeld.2⟩ (fun hHeld => ?_)
    clear hK K
    refine norm_ (a' := ?_) ?_ ?_
    rotate_left
    ·show Act.put _ (some 19) _ = _
     simp only [Act.put, List.setIfInBounds_toArray, List.set_cons_zero, List.set_cons_succ, i64_w, i32_w]
     rfl
    refine one_ (i := 9) (N := some 23) #[true, true, true, true, true, true, true, true, true, true, false, false, false] rfl rfl (by kernel_rfl) (by decide) (fun K hK => ?_)
    refine value_ (w1 := ?_) (v := ?_) (by rfl) rfl ?_ ?_
    rotate_left 2
    ·go_simp
     constructor
     ·rfl
     ·rfl
    refine hK.out _ _ ⟨(((Below.refl _ _).alloc (Nat.le_refl _) _).cell (World.block_lt_of_cell? _ _ hHeld.1)).trans hHeld.1, (((Below.refl _ _).alloc (Nat.le_refl _) _).cell (World.block_lt_of_cell? _ _ hHeld.2)).trans hHeld.2⟩ (fun hHeld => ?_)
    clear hK K
    refine norm_ (a' := ?_) ?_ ?_
    rotate_left
    ·show Act.put _ (some 23) _ = _
     simp only [Act.put, List.setIfInBounds_toArray, List.set_cons_zero, List.set_cons_succ, i64_w, i32_w]
     rfl
    exact norm_ (by simp only [putAll, Act.put, List.setIfInBounds_toArray, List.set_cons_zero, List.set_cons_succ]) (hCont (w5.heap.size, (w5.heap.size + 1), (w5.heap.size + 1 + 1)) _ (by repeat (first | exact Below.refl _ _ | apply below_alloc | apply below_drew)))
   ·skip
    refine value_ (w1 := ?_) (v := ?_) (by rfl) rfl ?_ ?_
    rotate_left 2
    ·go_simp
     constructor
     ·rfl
     ·rfl
    refine hK.out _ _ ⟨(((Below.refl _ _).alloc (Nat.le_refl _) _).cell (World.block_lt_of_cell? _ _ hHeld.1)).trans hHeld.1, (((Below.refl _ _).alloc (Nat.le_refl _) _).cell (World.block_lt_of_cell? _ _ hHeld.2)).trans hHeld.2⟩ (fun hHeld => ?_)
    clear hK K
    refine norm_ (a' := ?_) ?_ ?_
    rotate_left
    ·show Act.put _ (some 23) _ = _
     simp only [Act.put, List.setIfInBounds_toArray, List.set_cons_zero, List.set_cons_succ, i64_w, i32_w]
     rfl
    refine one_ (i := 5) (N := some 19) #[true, true, true, true, true, true, true, true, true, true, false, false, false] rfl rfl (by kernel_rfl) (by decide) (fun K hK => ?_)
    refine value_ (w1 := ?_) (v := ?_) (by rfl) rfl ?_ ?_
    rotate_left 2
    ·go_simp
     constructor
     ·rfl
     ·rfl
    refine hK.out _ _ ⟨(((Below.refl _ _).alloc (Nat.le_refl _) _).cell (World.block_lt_of_cell? _ _ hHeld.1)).trans hHeld.1, (((Below.refl _ _).alloc (Nat.le_refl _) _).cell (World.block_lt_of_cell? _ _ hHeld.2)).trans hHeld.2⟩ (fun hHeld => ?_)
    clear hK K
    refine norm_ (a' := ?_) ?_ ?_
    rotate_left
    ·show Act.put _ (some 19) _ = _
     simp only [Act.put, List.setIfInBounds_toArray, List.set_cons_zero, List.set_cons_succ, i64_w, i32_w]
     rfl
    exact norm_ (by simp only [putAll, Act.put, List.setIfInBounds_toArray, List.set_cons_zero, List.set_cons_succ]) (hCont (w5.heap.size, (w5.heap.size + 1 + 1), (w5.heap.size + 1)) _ (by repeat (first | exact Below.refl _ _ | apply below_alloc | apply below_drew)))
  ·skip
   refine value_ (w1 := ?_) (v := ?_) (by rfl) rfl ?_ ?_
   rotate_left 2
   ·go_simp
    constructor
    ·rfl
    ·rfl
   refine hK.out _ _ ⟨(((Below.refl _ _).alloc (Nat.le_refl _) _).cell (World.block_lt_of_cell? _ _ hHeld.1)).trans hHeld.1, (((Below.refl _ _).alloc (Nat.le_refl _) _).cell (World.block_lt_of_cell? _ _ hHeld.2)).trans hHeld.2⟩ (fun hHeld => ?_)
   clear hK K
   refine norm_ (a' := ?_) ?_ ?_
   rotate_left
   ·show Act.put _ (some 19) _ = _
    simp only [Act.put, List.setIfInBounds_toArray, List.set_cons_zero, List.set_cons_succ, i64_w, i32_w]
    rfl
   refine two_ (i := 1) (j := 9) (Ni := some 15) (Nj := some 23) #[true, true, true, true, true, true, true, true, true, false, false, false, false] #[true, false, true, true, true, true, true, true, true, true, false, false, false] rfl rfl rfl rfl (by kernel_rfl) (by decide) (by decide) (fun K hK => ?_) (fun K hK => ?_)
   ·skip
    refine value_ (w1 := ?_) (v := ?_) (by rfl) rfl ?_ ?_
    rotate_left 2
    ·go_simp
     constructor
     ·rfl
     ·rfl
    refine hK.out _ _ ⟨(((Below.refl _ _).alloc (Nat.le_refl _) _).cell (World.block_lt_of_cell? _ _ hHeld.1)).trans hHeld.1, (((Below.refl _ _).alloc (Nat.le_refl _) _).cell (World.block_lt_of_cell? _ _ hHeld.2)).trans hHeld.2⟩ (fun hHeld => ?_)
    clear hK K
    refine norm_ (a' := ?_) ?_ ?_
    rotate_left
    ·show Act.put _ (some 15) _ = _
     simp only [Act.put, List.setIfInBounds_toArray, List.set_cons_zero, List.set_cons_succ, i64_w, i32_w]
     rfl
    refine one_ (i := 9) (N := some 23) #[true, true, true, true, true, true, true, true, true, true, false, false, false] rfl rfl (by kernel_rfl) (by decide) (fun K hK => ?_)
    refine value_ (w1 := ?_) (v := ?_) (by rfl) rfl ?_ ?_
    rotate_left 2
    ·go_simp
     constructor
     ·rfl
     ·rfl
    refine hK.out _ _ ⟨(((Below.refl _ _).alloc (Nat.le_refl _) _).cell (World.block_lt_of_cell? _ _ hHeld.1)).trans hHeld.1, (((Below.refl _ _).alloc (Nat.le_refl _) _).cell (World.block_lt_of_cell? _ _ hHeld.2)).trans hHeld.2⟩ (fun hHeld => ?_)
    clear hK K
    refine norm_ (a' := ?_) ?_ ?_
    rotate_left
    ·show Act.put _ (some 23) _ = _
     simp only [Act.put, List.setIfInBounds_toArray, List.set_cons_zero, List.set_cons_succ, i64_w, i32_w]
     rfl
    exact norm_ (by simp only [putAll, Act.put, List.setIfInBounds_toArray, List.set_cons_zero, List.set_cons_succ]) (hCont ((w5.heap.size + 1), w5.heap.size, (w5.heap.size + 1 + 1)) _ (by repeat (first | exact Below.refl _ _ | apply below_alloc | apply below_drew)))
   ·skip
    refine value_ (w1 := ?_) (v := ?_) (by rfl) rfl ?_ ?_
    rotate_left 2
    ·go_simp
     constructor
     ·rfl
     ·rfl
    refine hK.out _ _ ⟨(((Below.refl _ _).alloc (Nat.le_refl _) _).cell (World.block_lt_of_cell? _ _ hHeld.1)).trans hHeld.1, (((Below.refl _ _).alloc (Nat.le_refl _) _).cell (World.block_lt_of_cell? _ _ hHeld.2)).trans hHeld.2⟩ (fun hHeld => ?_)
    clear hK K
    refine norm_ (a' := ?_) ?_ ?_
    rotate_left
    ·show Act.put _ (some 23) _ = _
     simp only [Act.put, List.setIfInBounds_toArray, List.set_cons_zero, List.set_cons_succ, i64_w, i32_w]
     rfl
    refine one_ (i := 1) (N := some 15) #[true, true, true, true, true, true, true, true, true, true, false, false, false] rfl rfl (by kernel_rfl) (by decide) (fun K hK => ?_)
    refine value_ (w1 := ?_) (v := ?_) (by rfl) rfl ?_ ?_
    rotate_left 2
    ·go_simp
     constructor
     ·rfl
     ·rfl
    refine hK.out _ _ ⟨(((Below.refl _ _).alloc (Nat.le_refl _) _).cell (World.block_lt_of_cell? _ _ hHeld.1)).trans hHeld.1, (((Below.refl _ _).alloc (Nat.le_refl _) _).cell (World.block_lt_of_cell? _ _ hHeld.2)).trans hHeld.2⟩ (fun hHeld => ?_)
    clear hK K
    refine norm_ (a' := ?_) ?_ ?_
    rotate_left
    ·show Act.put _ (some 15) _ = _
     simp only [Act.put, List.setIfInBounds_toArray, List.set_cons_zero, List.set_cons_succ, i64_w, i32_w]
     rfl
    exact norm_ (by simp only [putAll, Act.put, List.setIfInBounds_toArray, List.set_cons_zero, List.set_cons_succ]) (hCont ((w5.heap.size + 1 + 1), w5.heap.size, (w5.heap.size + 1)) _ (by repeat (first | exact Below.refl _ _ | apply below_alloc | apply below_drew)))
  ·skip
   refine value_ (w1 := ?_) (v := ?_) (by rfl) rfl ?_ ?_
   rotate_left 2
   ·go_simp
    constructor
    ·rfl
    ·rfl
   refine hK.out _ _ ⟨(((Below.refl _ _).alloc (Nat.le_refl _) _).cell (World.block_lt_of_cell? _ _ hHeld.1)).trans hHeld.1, (((Below.refl _ _).alloc (Nat.le_refl _) _).cell (World.block_lt_of_cell? _ _ hHeld.2)).trans hHeld.2⟩ (fun hHeld => ?_)
   clear hK K
   refine norm_ (a' := ?_) ?_ ?_
   rotate_left
   ·show Act.put _ (some 23) _ = _
    simp only [Act.put, List.setIfInBounds_toArray, List.set_cons_zero, List.set_cons_succ, i64_w, i32_w]
    rfl
   refine two_ (i := 1) (j := 5) (Ni := some 15) (Nj := some 19) #[true, true, true, true, true, false, true, true, true, true, false, false, false] #[true, false, true, true, true, true, true, true, true, true, false, false, false] rfl rfl rfl rfl (by kernel_rfl) (by decide) (by decide) (fun K hK => ?_) (fun K hK => ?_)
   ·skip
    refine value_ (w1 := ?_) (v := ?_) (by rfl) rfl ?_ ?_
    rotate_left 2
    ·go_simp
     constructor
     ·rfl
     ·rfl
    refine hK.out _ _ ⟨(((Below.refl _ _).alloc (Nat.le_refl _) _).cell (World.block_lt_of_cell? _ _ hHeld.1)).trans hHeld.1, (((Below.refl _ _).alloc (Nat.le_refl _) _).cell (World.block_lt_of_cell? _ _ hHeld.2)).trans hHeld.2⟩ (fun hHeld => ?_)
    clear hK K
    refine norm_ (a' := ?_) ?_ ?_
    rotate_left
    ·show Act.put _ (some 15) _ = _
     simp only [Act.put, List.setIfInBounds_toArray, List.set_cons_zero, List.set_cons_succ, i64_w, i32_w]
     rfl
    refine one_ (i := 5) (N := some 19) #[true, true, true, true, true, true, true, true, true, true, false, false, false] rfl rfl (by kernel_rfl) (by decide) (fun K hK => ?_)
    refine value_ (w1 := ?_) (v := ?_) (by rfl) rfl ?_ ?_
    rotate_left 2
    ·go_simp
     constructor
     ·rfl
     ·rfl
    refine hK.out _ _ ⟨(((Below.refl _ _).alloc (Nat.le_refl _) _).cell (World.block_lt_of_cell? _ _ hHeld.1)).trans hHeld.1, (((Below.refl _ _).alloc (Nat.le_refl _) _).cell (World.block_lt_of_cell? _ _ hHeld.2)).trans hHeld.2⟩ (fun hHeld => ?_)
    clear hK K
    refine norm_ (a' := ?_) ?_ ?_
    rotate_left
    ·show Act.put _ (some 19) _ = _
     simp only [Act.put, List.setIfInBounds_toArray, List.set_cons_zero, List.set_cons_succ, i64_w, i32_w]
     rfl
    exact norm_ (by simp only [putAll, Act.put, List.setIfInBounds_toArray, List.set_cons_zero, List.set_cons_succ]) (hCont ((w5.heap.size + 1), (w5.heap.size + 1 + 1), w5.heap.size) _ (by repeat (first | exact Below.refl _ _ | apply below_alloc | apply below_drew)))
   ·skip
    refine value_ (w1 := ?_) (v := ?_) (by rfl) rfl ?_ ?_
    rotate_left 2
    ·go_simp
     constructor
     ·rfl
     ·rfl
    refine hK.out _ _ ⟨(((Below.refl _ _).alloc (Nat.le_refl _) _).cell (World.block_lt_of_cell? _ _ hHeld.1)).trans hHeld.1, (((Below.refl _ _).alloc (Nat.le_refl _) _).cell (World.block_lt_of_cell? _ _ hHeld.2)).trans hHeld.2⟩ (fun hHeld => ?_)
    clear hK K
    refine norm_ (a' := ?_) ?_ ?_
    rotate_left
    ·show Act.put _ (some 19) _ = _
     simp only [Act.put, List.setIfInBounds_toArray, List.set_cons_zero, List.set_cons_succ, i64_w, i32_w]
     rfl
    refine one_ (i := 1) (N := some 15) #[true, true, true, true, true, true, true, true, true, true, false, false, false] rfl rfl (by kernel_rfl) (by decide) (fun K hK => ?_)
    refine value_ (w1 := ?_) (v := ?_) (by rfl) rfl ?_ ?_
    rotate_left 2
    ·go_simp
     constructor
     ·rfl
     ·rfl
    refine hK.out _ _ ⟨(((Below.refl _ _).alloc (Nat.le_refl _) _).cell (World.block_lt_of_cell? _ _ hHeld.1)).trans hHeld.1, (((Below.refl _ _).alloc (Nat.le_refl _) _).cell (World.block_lt_of_cell? _ _ hHeld.2)).trans hHeld.2⟩ (fun hHeld => ?_)
    clear hK K
    refine norm_ (a' := ?_) ?_ ?_
    rotate_left
    ·show Act.put _ (some 15) _ = _
     simp only [Act.put, List.setIfInBounds_toArray, List.set_cons_zero, List.set_cons_succ, i64_w, i32_w]
     rfl
    exact norm_ (by simp only [putAll, Act.put, List.setIfInBounds_toArray, List.set_cons_zero, List.set_cons_succ]) (hCont ((w5.heap.size + 1 + 1), (w5.heap.size + 1), w5.heap.size) _ (by repeat (first | exact Below.refl _ _ | apply below_alloc | apply below_drew)))
 rintro ⟨s1, s2, s3⟩ w6 hb6
 have hHeld : w6.cell? ⟨g0, 0, none⟩ = some (.slice none 0 0) ∧ w6.cell? ⟨g0, 1, none⟩ = some (.slice none 0 0) := ⟨(hb6.cell (World.block_lt_of_cell? _ _ y0)).trans y0, (hb6.cell (World.block_lt_of_cell? _ _ y1)).trans y1⟩
 refine norm_ (a' := ?_) ?_ ?_
 rotate_left
 ·simp only [putAll, Act.put, List.setIfInBounds_toArray, List.set_cons_zero, List.set_cons_succ]
  rfl
 refine pure_ (i := 10) (N := some 24) (v := ?_) (a' := ?_) #[true, true, true, true, true, true, true, true, true, true, true, false, false] rfl rfl (by kernel_rfl) (fun _ _ _ h => h) (Or.inl ⟨by rfl, ?_⟩) ?_ ?_
 rotate_left
 ·intro w'
  go_simp
  with_reducible rfl
 rotate_left
 ·simp only [Act.put, List.setIfInBounds_toArray, List.set_cons_zero, List.set_cons_succ, i64_w, i32_w]
  rfl
 refine one_ (i := 11) (N := some 25) #[true, true, true, true, true, true, true, true, true, true, true, true, false] rfl rfl (by kernel_rfl) (by decide) (fun K hK => ?_)
 refine value_ (w1 := ?_) (v := ?_) (by rfl) rfl ?_ ?_
 rotate_left 2
 ·go_simp
  constructor
  ·rfl
  ·rfl
 refine hK.out _ _ ⟨(((Below.refl _ _).alloc (Nat.le_refl _) _).cell (World.block_lt_of_cell? _ _ hHeld.1)).trans hHeld.1, (((Below.refl _ _).alloc (Nat.le_refl _) _).cell (World.block_lt_of_cell? _ _ hHeld.2)).trans hHeld.2⟩ (fun hHeld => ?_)
 clear hK K
 refine norm_ (a' := ?_) ?_ ?_
 rotate_left
 ·show Act.put _ (some 25) _ = _
  simp only [Act.put, List.setIfInBounds_toArray, List.set_cons_zero, List.set_cons_succ, i64_w, i32_w]
  rfl
 refine pure_ (i := 12) (N := some 5) (v := ?_) (a' := ?_) #[true, true, true, true, true, true, true, true, true, true, true, true, true] rfl rfl (by kernel_rfl) (fun _ _ _ h => h) (Or.inl ⟨by rfl, ?_⟩) ?_ ?_
 rotate_left
 ·intro w'
  go_simp
  with_reducible rfl
 rotate_left
 ·simp only [Act.put, List.setIfInBounds_toArray, List.set_cons_zero, List.set_cons_succ, i64_w, i32_w]
  rfl
 refine done_ (by kernel_rfl) ?_
 
 --END4
 have hb7 : Below w5.heap.size w5 (w6.alloc (.cells (wk0 (.map (some s1)) (.slice (some ⟨s2, 0, none⟩) 0 0) (.slice (some ⟨s3, 0, none⟩) 0 0)) 150)) := below_alloc hb6 _
 have hg7 := heap_alloc_new w6 (.cells (wk0 (.map (some s1)) (.slice (some ⟨s2, 0, none⟩) 0 0) (.slice (some ⟨s3, 0, none⟩) 0 0)) 150)
 change Exit.then _ _ _ _ (w6.alloc (.cells (wk0 (.map (some s1)) (.slice (some ⟨s2, 0, none⟩) 0 0) (.slice (some ⟨s3, 0, none⟩) 0 0)) 150))
 generalize w6.alloc (.cells (wk0 (.map (some s1)) (.slice (some ⟨s2, 0, none⟩) 0 0) (.slice (some ⟨s3, 0, none⟩) 0 0)) 150) = w7 at hb7 hg7 ⊢
 have hB7 := below_step hB5 hb7
 clear y0 y1 hHeld
 have y1 : w7.cell? ⟨g0, 1, none⟩ = some (.slice none 0 0) := (blk_cell (blk_below hg5 hb7) 1).trans rfl
 generalize w6.heap.size = h at hg7 ⊢
 clear hb6 hb7 hg5
 go_wp2
 go_loopw [29] (fun v wr => v = .int .i64 0 ∧ w7 = wr) (fun _ _ => 0)
 case atStart => exact ⟨rfl, rfl⟩
 case round =>
  obtain ⟨rfl, rfl⟩ := hrel
  go_wp2
  go_ret2
  exact ⟨⟨h, _, _, _, rfl, hg7⟩, hB7⟩
theorem walk0_calls (w : World) (h : Nat) (a b c : Value) (hg : w.heap[h]? = some (.cells (wk0 a b c) 150 (0, 0))) :
  Calls Tryz.prog 129 #[.pointer (some ⟨h, 0, none⟩)] w fun e w' => e = .returned (.tuple #[]) ∧ w = w' := by
 have hu := Tryz.underlying25
 have hu2 := Tryz.underlying150
 have y1 : w.cell? ⟨h, 1, none⟩ = some (.slice none 0 0) := (blk_cell hg 1).trans rfl
 go_enter Tryz.func129, Tryz.ntmps129
 go_wp2_with (go_step3)
 go_loopw [13] (fun v wr => v = .int .i64 0 ∧ w = wr) (fun _ _ => 0)
 case atStart => exact ⟨rfl, rfl⟩
 case round =>
  obtain ⟨rfl, rfl⟩ := hrel
  go_wp2_with (go_step3)
  first | rw [Exit.noGoto_normal] | unfold Exit.noGoto
  go_end0
  exact ⟨rfl, rfl⟩
theorem walked0_calls (w : World) :
  Calls Tryz.prog 73 #[.agg #[.slice none 0 0, .slice none 0 0]] w fun e w' => (∃ h a b c, e = .returned (.tuple #[.pointer (some ⟨h, 0, none⟩), .int .i64 0]) ∧ w'.heap[h]? = some (.cells (wk0 a b c) 150 (0, 0))) ∧ Below w.heap.size w w' := by
 have hu := Tryz.underlying25
 have hu2 := Tryz.underlying150
 have hbg := fun W => begun0_calls W
 go_enter Tryz.func73, Tryz.ntmps73
 go_upto_region 1 with (fail)
 have hb : Below w.heap.size w (w.alloc (.cells #[.slice none 0 0, .slice none 0 0] 25)) := below_alloc (Below.refl _ w) _
 have hg := heap_alloc_new w (.cells #[.slice none 0 0, .slice none 0 0] 25)
 generalize w.alloc (.cells #[.slice none 0 0, .slice none 0 0] 25) = w1 at hb hg ⊢
 have y0 : w1.cell? ⟨w.heap.size, 0, none⟩ = some (.slice none 0 0) := (blk_cell hg 0).trans rfl
 have y1 : w1.cell? ⟨w.heap.size, 1, none⟩ = some (.slice none 0 0) := (blk_cell hg 1).trans rfl
 go_upto_region 2 with (go_at_call 128; refine (hbg _).mono ?_; rintro e w5 ⟨⟨h, a, b, c, rfl, hg5⟩, hb5⟩)
 have hB5 := below_step hb hb5
 clear hbg y0 y1 hb5 hg hb
 have hwk := walk0_calls w5 h a b c hg5
 go_wp2_with (go_at_call 129; refine hwk.mono ?_; rintro e w6 ⟨rfl, rfl⟩)
 go_ret2
 exact ⟨⟨h, a, b, c, rfl, hg5⟩, hB5⟩
theorem steps0_calls (w : World) :
  Calls Tryz.prog 34 #[.agg #[.slice none 0 0, .slice none 0 0]] w fun e w' => e = .returned (.tuple #[.slice none 0 0, .int .i64 0]) ∧ Below w.heap.size w w' := by
 have hu := Tryz.underlying25
 have hu2 := Tryz.underlying150
 have hwd := fun W => walked0_calls W
 go_enter Tryz.func34, Tryz.ntmps34
 go_upto_region 1 with (fail)
 have hb : Below w.heap.size w (w.alloc (.cells #[.slice none 0 0, .slice none 0 0] 25)) := below_alloc (Below.refl _ w) _
 have hg := heap_alloc_new w (.cells #[.slice none 0 0, .slice none 0 0] 25)
 generalize w.alloc (.cells #[.slice none 0 0, .slice none 0 0] 25) = w1 at hb hg ⊢
 have y0 : w1.cell? ⟨w.heap.size, 0, none⟩ = some (.slice none 0 0) := (blk_cell hg 0).trans rfl
 have y1 : w1.cell? ⟨w.heap.size, 1, none⟩ = some (.slice none 0 0) := (blk_cell hg 1).trans rfl
 go_upto_region 4 with (go_at_call 73; refine (hwd _).mono ?_; rintro e w5 ⟨⟨h, a, b, c, rfl, hg5⟩, hb5⟩)
 have hB5 := below_step hb hb5
 clear hwd y0 y1 hb5 hg hb
 have y9 : w5.cell? ⟨h, 9, none⟩ = some (.slice none 0 0) := (blk_cell hg5 9).trans rfl
 go_wp2
 go_ret2
 exact ⟨rfl, hB5⟩
theorem canon0_calls (w : World) :
  Calls Tryz.prog 35 #[.agg #[.slice none 0 0, .slice none 0 0]] w fun e w' => e = .returned (.tuple #[.agg #[.slice none 0 0, .slice none 0 0], .int .i64 0]) ∧ Below w.heap.size w w' := by
 have hu := Tryz.underlying25
 have hu2 := Tryz.underlying150
 have hwd := fun W => walked0_calls W
 go_enter Tryz.func35, Tryz.ntmps35
 go_upto_region 1 with (fail)
 have hb : Below w.heap.size w (w.alloc (.cells #[.slice none 0 0, .slice none 0 0] 25)) := below_alloc (Below.refl _ w) _
 have hg := heap_alloc_new w (.cells #[.slice none 0 0, .slice none 0 0] 25)
 have hb2 : Below w.heap.size w ((w.alloc (.cells #[.slice none 0 0, .slice none 0 0] 25)).alloc (.cells #[.slice none 0 0, .slice none 0 0] 25)) := below_alloc hb _
 have hg2 := heap_alloc_new (w.alloc (.cells #[.slice none 0 0, .slice none 0 0] 25)) (.cells #[.slice none 0 0, .slice none 0 0] 25)
 rw [show (w.alloc (.cells #[.slice none 0 0, .slice none 0 0] 25)).heap.size = w.heap.size + 1 by simp] at hg2
 have hg1 := blk_alloc hg (.cells #[.slice none 0 0, .slice none 0 0] 25)
 generalize (w.alloc (.cells #[.slice none 0 0, .slice none 0 0] 25)).alloc (.cells #[.slice none 0 0, .slice none 0 0] 25) = w1 at hb2 hg2 hg1 ⊢
 clear hb hg
 have y0 : w1.cell? ⟨w.heap.size, 0, none⟩ = some (.slice none 0 0) := (blk_cell hg1 0).trans rfl
 have y1 : w1.cell? ⟨w.heap.size, 1, none⟩ = some (.slice none 0 0) := (blk_cell hg1 1).trans rfl
 go_upto_region 4 with (go_at_call 73; refine (hwd _).mono ?_; rintro e w5 ⟨⟨h, a, b, c, rfl, hg5⟩, hb5⟩)
 have hB5 := below_step hb2 hb5
 have hg3 := blk_below hg2 hb5
 clear hwd y0 y1 hb5 hg2 hb2 hg1
 have hle : w.heap.size ≤ w.heap.size + 1 := Nat.le_succ _
 generalize w.heap.size + 1 = g1 at hg3 hle ⊢
 have y5 : w5.cell? ⟨h, 5, none⟩ = some (.slice none 0 0) := (blk_cell hg5 5).trans rfl
 have y7 : w5.cell? ⟨h, 7, none⟩ = some (.slice none 0 0) := (blk_cell hg5 7).trans rfl
 go_upto_region 5 with (fail)
 have hb6 : Below w5.heap.size w5 (w5.alloc (.cells #[.slice none 0 0, .slice none 0 0] 25)) := below_alloc (Below.refl _ w5) _
 have hg6 := heap_alloc_new w5 (.cells #[.slice none 0 0, .slice none 0 0] 25)
 have hlt := blk_lt hg3
 generalize w5.alloc (.cells #[.slice none 0 0, .slice none 0 0] 25) = w6 at hb6 hg6 ⊢
 have hB6 := below_step hB5 hb6
 have hg36 := blk_below hg3 hb6
 have hgh := blk_below hg5 hb6
 clear y5 y7
 have y5 : w6.cell? ⟨h, 5, none⟩ = some (.slice none 0 0) := (blk_cell hgh 5).trans rfl
 clear hb6 hg5 hB5
 generalize w5.heap.size = g6 at hg6 hlt ⊢
 clear hg3
 have q0 : w6.cell? ⟨g6, 0, none⟩ = some (.slice none 0 0) := (blk_cell hg6 0).trans rfl
 have q1 : w6.cell? ⟨g6, 1, none⟩ = some (.slice none 0 0) := (blk_cell hg6 1).trans rfl
 have r0 : w6.cell? ⟨g1, 0, none⟩ = some (.slice none 0 0) := (blk_cell hg36 0).trans rfl
 have r1 : w6.cell? ⟨g1, 1, none⟩ = some (.slice none 0 0) := (blk_cell hg36 1).trans rfl
 have f0 := blk_frozen hg36 0
 have f1 := blk_frozen hg36 1
 go_wp2
 go_loopw [28] (fun v wr => v = .int .i64 0 ∧ w6 = wr) (fun _ _ => 0)
 case atStart => exact ⟨rfl, rfl⟩
 case round =>
  obtain ⟨rfl, rfl⟩ := hrel
  go_wp2
  refine bodyPost_ret (results_ct rfl _ _ g1 25 #[.slice none 0 0, .slice none 0 0] (0, 0) _ rfl (blk_put (cs := #[.slice none 0 0, .slice none 0 0]) (blk_put hg36 0 _ rfl) 1 _ rfl) Tryz.underlying25 rfl (by kernel_rfl)) rfl ?_
  exact ⟨rfl, below_set (below_set hB6 hle) hle⟩

theorem mul64_calls (w : World) :
  Calls Tryz.prog 236 #[.int .u64 1, .int .u64 0] w fun e w' => e = .returned (.tuple #[.int .u64 0, .int .u64 0]) ∧ w = w' := by
 go_enter Tryz.func236, Tryz.ntmps236
 go_wp2
 go_ret2
 exact ⟨rfl, rfl⟩
theorem mul_calls (w : World) :
  Calls Tryz.prog 220 #[.int .u64 1, .int .u64 0] w fun e w' => e = .returned (.tuple #[.int .u64 0, .int .u64 0]) ∧ w = w' := by
 go_enter Tryz.func220, Tryz.ntmps220
 go_wp2_with (go_at_call 236; refine (mul64_calls _).mono ?_; rintro e w2 ⟨rfl, rfl⟩)
 go_ret2
 exact ⟨rfl, rfl⟩
theorem repeat0_calls (w : World) (b : Nat) :
  Calls Tryz.prog 187 #[.slice (some ⟨b, 0, none⟩) 1 1, .int .i64 0] w fun e w' => (∃ g, e = .returned (.slice (some ⟨g, 0, none⟩) 0 0)) ∧ Below w.heap.size w w' := by
 have hmk := print_make (P := Tryz.prog) 83 3 .i64 8 Tryz.underlying83 (by kernel_rfl) (by decide) 0 (by omega)
 rw [show ((0 : Nat) : Int) = 0 from rfl] at hmk
 go_enter Tryz.func187, Tryz.ntmps187
 go_upto_region 7 with (go_at_call 220; refine (mul_calls _).mono ?_; rintro e w2 ⟨rfl, rfl⟩)
 have hb : Below w.heap.size w (w.alloc (.cells (madeCells #[.int .i64 0] 0) 3)) := below_alloc (Below.refl _ w) _
 generalize w.alloc (.cells (madeCells #[.int .i64 0] 0) 3) = w1 at hb ⊢
 obtain ⟨g, hg⟩ : ∃ g, g = w.heap.size := ⟨_, rfl⟩
 rw [← hg]
 have HG := Aside0.mk hg
 clear hg
 have hcp : Sem.run Tryz.prog (Builtin.copy_ #[83, 83] 3 #[.slice (some ⟨g, 0, none⟩) 0 0, .slice (some ⟨b, 0, none⟩) 1 1]) w1 = .ok (.int .i64 0) w1 := by kernel_rfl
 go_wp2
 go_loopw [8] (fun v wr => v = .int .i64 0 ∧ w1 = wr) (fun _ _ => 0)
 case atStart => exact ⟨rfl, rfl⟩
 case round =>
  obtain ⟨rfl, rfl⟩ := hrel
  go_wp2
  go_ret
  exact ⟨⟨g, rfl⟩, hb⟩
theorem ptable0_calls (w : World) :
  Calls Tryz.prog 130 #[.slice none 0 0] w fun e w' => (∃ m, e = .returned (.map m)) ∧ Below w.heap.size w w' := by
 have hmm := @run_makeMap Tryz.prog
 go_enter Tryz.func130, Tryz.ntmps130
 go_upto_region 2 with (fail)
 have hb2 : Below w.heap.size w (w.alloc (.map #[] 0)) := below_alloc (Below.refl _ w) _
 generalize w.alloc (.map #[] 0) = w2 at hb2 ⊢
 go_wp2
 go_loopw [13] (fun v wr => v = .int .i64 0 ∧ w2 = wr) (fun _ _ => 0)
 case atStart => exact ⟨rfl, rfl⟩
 case round =>
  obtain ⟨rfl, rfl⟩ := hrel
  go_wp2
  go_ret
  exact ⟨⟨_, rfl⟩, hb2⟩
theorem firsts0_calls (w : World) :
  Calls Tryz.prog 131 #[.slice none 0 0, .int .i64 0] w fun e w' => (∃ g, e = .returned (.slice (some ⟨g, 0, none⟩) 0 0)) ∧ Below w.heap.size w w' := by
 have hr := fun W b => repeat0_calls W b
 have hb : Below w.heap.size w (w.alloc (.cells #[.int .i64 (-1)] 3)) := below_alloc (Below.refl _ w) _
 go_enter Tryz.func131, Tryz.ntmps131
 go_upto_region 2 with (go_at_call 187; refine (hr _ _).mono ?_; rintro e w2 ⟨⟨g, rfl⟩, hb2⟩)
 have hB2 := below_step hb hb2
 clear hr hb hb2
 go_wp2
 go_loopw [15] (fun v wr => v = .int .i64 0 ∧ w2 = wr) (fun _ _ => 0)
 case atStart => exact ⟨rfl, rfl⟩
 case round =>
  obtain ⟨rfl, rfl⟩ := hrel
  go_wp2
  go_ret
  exact ⟨⟨_, rfl⟩, hB2⟩
theorem fores0_calls (w : World) :
  Calls Tryz.prog 74 #[.slice none 0 0, .int .i64 0] w fun e w' => e = .returned (.tuple #[.slice none 0 0, .bool true]) ∧ Below w.heap.size w w' := by
 have ht := fun W => ptable0_calls W
 have hf := fun W => firsts0_calls W
 go_enter Tryz.func74, Tryz.ntmps74
 go_wp2
 go_loopw [15] (fun v wr => v = .int .i64 0 ∧ w = wr) (fun _ _ => 0)
 case atStart => exact ⟨rfl, rfl⟩
 case round =>
  obtain ⟨rfl, rfl⟩ := hrel
  go_wp2_with (first | (go_at_call 130; refine (ht _).mono ?_; rintro e w2 ⟨⟨m, rfl⟩, hb2⟩) | (go_at_call 131; refine (hf _).mono ?_; rintro e w3 ⟨⟨g, rfl⟩, hb3⟩; have hB3 := below_step hb2 hb3))
  go_loopw [9, 45] (fun v9 v wr => v9 = .slice none 0 0 ∧ v = .int .i64 0 ∧ w3 = wr) (fun _ _ _ => 0)
  case atStart => exact ⟨rfl, rfl, rfl⟩
  case round =>
   obtain ⟨rfl, rfl, rfl⟩ := hrel
   go_wp2
   go_ret2
   exact ⟨rfl, hB3⟩
theorem index0_calls (w : World) (f : Value) :
  Calls Tryz.prog 133 #[.slice none 0 0, f] w fun e w' => e = .returned (.int .i64 (-1)) ∧ w = w' := by
 go_enter Tryz.func133, Tryz.ntmps133
 go_wp2
 go_loopw [8] (fun v wr => v = .int .i64 0 ∧ w = wr) (fun _ _ => 0)
 case atStart => exact ⟨rfl, rfl⟩
 case round =>
  obtain ⟨rfl, rfl⟩ := hrel
  go_wp2
  go_ret
  exact ⟨rfl, rfl⟩
theorem contains0_calls (w : World) (f : Value) :
  Calls Tryz.prog 75 #[.slice none 0 0, f] w fun e w' => e = .returned (.bool false) ∧ w = w' := by
 go_enter Tryz.func75, Tryz.ntmps75
 go_wp2_with (go_at_call 133; refine (index0_calls _ _).mono ?_; rintro e w2 ⟨rfl, rfl⟩)
 go_ret
 exact ⟨rfl, rfl⟩
theorem rests0_calls (w : World) :
  Calls Tryz.prog 37 #[.agg #[.slice none 0 0, .slice none 0 0]] w fun e w' => e = .returned (.tuple #[.slice none 0 0, .int .i64 0]) ∧ Below w.heap.size w w' := by
 have hu := Tryz.underlying25
 have hf := fun W => fores0_calls W
 go_enter Tryz.func37, Tryz.ntmps37
 go_upto_region 1 with (fail)
 have hb : Below w.heap.size w (w.alloc (.cells #[.slice none 0 0, .slice none 0 0] 25)) := below_alloc (Below.refl _ w) _
 have hg := heap_alloc_new w (.cells #[.slice none 0 0, .slice none 0 0] 25)
 generalize w.alloc (.cells #[.slice none 0 0, .slice none 0 0] 25) = w1 at hb hg ⊢
 have y0 : w1.cell? ⟨w.heap.size, 0, none⟩ = some (.slice none 0 0) := (blk_cell hg 0).trans rfl
 have y1 : w1.cell? ⟨w.heap.size, 1, none⟩ = some (.slice none 0 0) := (blk_cell hg 1).trans rfl
 go_upto_region 2 with (go_at_call 74; refine (hf _).mono ?_; rintro e w2 ⟨rfl, hb2⟩)
 have hB2 := below_step hb hb2
 have hg2 := blk_below hg hb2
 clear y0 y1 hb2 hg hb hf
 have y0 : w2.cell? ⟨w.heap.size, 0, none⟩ = some (.slice none 0 0) := (blk_cell hg2 0).trans rfl
 have y1 : w2.cell? ⟨w.heap.size, 1, none⟩ = some (.slice none 0 0) := (blk_cell hg2 1).trans rfl
 go_wp2_with (go_at_call 75; refine (contains0_calls _ _).mono ?_; rintro e w3 ⟨rfl, rfl⟩)
 go_loopw [6, 29] (fun v6 v wr => v6 = .slice none 0 0 ∧ v = .int .i64 0 ∧ w2 = wr) (fun _ _ _ => 0)
 case atStart => exact ⟨rfl, rfl, rfl⟩
 case round =>
  obtain ⟨rfl, rfl, rfl⟩ := hrel
  go_wp2
  go_ret2
  exact ⟨rfl, hB2⟩
theorem bytes0_calls (w : World) :
  Calls Tryz.prog 38 #[.slice none 0 0] w fun e w' => e = .returned (.slice none 0 0) ∧ w = w' := by
 go_enter Tryz.func38, Tryz.ntmps38
 go_wp2
 go_loopw [3, 8] (fun v3 v wr => v3 = .slice none 0 0 ∧ v = .int .i64 0 ∧ w = wr) (fun _ _ _ => 0)
 case atStart => exact ⟨rfl, rfl, rfl⟩
 case round =>
  obtain ⟨rfl, rfl, rfl⟩ := hrel
  go_wp2
  go_ret
  exact ⟨rfl, rfl⟩
end Go.Proofs.YtbdbobjdlomjnaaGreatDoor.Ec

namespace Go.Proofs.YtbdbobjdlomjnaaGreatDoor.Ec
set_option linter.unusedVariables false
set_option linter.unusedSimpArgs false
open Go Go.RowKit Go.Proofs.YtbdbobjdlomjnaaGreatDoor.P Go.Proofs.YtbdbobjdlomjnaaGreatDoor.X Go.Proofs.YtbdbobjdlomjnaaGreatDoor.Fv Go.Proofs.YtbdbobjdlomjnaaGreatDoorW.PrintWords Go.Proofs.YtbdbobjdlomjnaaGreatDoorW.PrintLast Go.Proofs.YtbdbobjdlomjnaaGreatDoorW.PrintMore
set_option maxHeartbeats 8000000
set_option maxRecDepth 100000
theorem split_bad (w : World) (A : Option Addr) (c : Nat) (bs : List Int) (hd : Dg bs) (hbl : bs.length ≤ 1048576) (hc : bs.length ≤ c) (hr : Kd.C (Kd.int .u8) w A bs.length bs) (h1 : numV bs 0 = none) :
  Calls Tryz.prog 22 #[.slice A bs.length c] w fun e w' => e = .returned (.tuple #[.slice none 0 0, .int .i64 11]) ∧ Below w.heap.size w w' := by
 have hu := Tryz.underlying100
 have hu2 := Tryz.underlying98
 have hb1 : Below w.heap.size w (w.alloc (.cells #[.bool false, .slice A bs.length c, .int .i64 0] 100)) := below_alloc (Below.refl _ w) _
 have hg1 := heap_alloc_new w (.cells #[.bool false, .slice A bs.length c, .int .i64 0] 100)
 have hn1 := num_calls w _ w.heap.size A c 0 bs hd (by omega) hc (Nat.zero_le _) (Kd.C_below hr hb1) hg1 (Nat.le_refl _) hb1
 rw [h1] at hn1
 simp only at hn1
 go_enter Tryz.func22, Tryz.ntmps22
 go_wp2_with (first | (go_at_call 43; refine hn1.mono ?_; rintro e w2 ⟨⟨rfl, hg2⟩, hp2⟩; have y0 : w2.cell? ⟨w.heap.size, 0, none⟩ = some (.bool true) := (blk_cell hg2 0).trans rfl) | go_step3)
 first | rw [Exit.noGoto_ret] | skip
 go_ret2
 exact ⟨rfl, hp2.b⟩
theorem split_over (w : World) (A : Option Addr) (c : Nat) (bs : List Int) (r : Nat × Nat) (hd : Dg bs) (hbl : bs.length ≤ 1048576) (hc : bs.length ≤ c) (hr : Kd.C (Kd.int .u8) w A bs.length bs) (h1 : numV bs 0 = some r) (hm : 50 < r.1) :
  Calls Tryz.prog 22 #[.slice A bs.length c] w fun e w' => e = .returned (.tuple #[.slice none 0 0, .int .i64 11]) ∧ Below w.heap.size w w' := by
 have hu := Tryz.underlying100
 have hu2 := Tryz.underlying98
 obtain ⟨q1, q2, q3⟩ := numV_le (Nat.zero_le _) h1
 have hb1 : Below w.heap.size w (w.alloc (.cells #[.bool false, .slice A bs.length c, .int .i64 0] 100)) := below_alloc (Below.refl _ w) _
 have hg1 := heap_alloc_new w (.cells #[.bool false, .slice A bs.length c, .int .i64 0] 100)
 have hn1 := num_calls w _ w.heap.size A c 0 bs hd (by omega) hc (Nat.zero_le _) (Kd.C_below hr hb1) hg1 (Nat.le_refl _) hb1
 rw [h1] at hn1
 simp only at hn1
 have b2 : decide ((50 : Int) < (r.1 : Int)) = true := decide_eq_true (by omega)
 go_enter Tryz.func22, Tryz.ntmps22
 go_wp2_with (first | (go_at_call 43; refine hn1.mono ?_; rintro e w2 ⟨⟨rfl, hg2⟩, hp2⟩; have y0 : w2.cell? ⟨w.heap.size, 0, none⟩ = some (.bool false) := (blk_cell hg2 0).trans rfl) | go_step3)
 first | rw [Exit.noGoto_ret] | skip
 go_ret2
 exact ⟨rfl, hp2.b⟩
end Go.Proofs.YtbdbobjdlomjnaaGreatDoor.Ec

namespace Go.Proofs.YtbdbobjdlomjnaaGreatDoor.P
open Go.RowKit Go.Proofs.YtbdbobjdlomjnaaGreatDoorW.PrintWords Go.Proofs.YtbdbobjdlomjnaaGreatDoorW.PrintLast Go.Proofs.YtbdbobjdlomjnaaGreatDoorW.PrintMore Go.Proofs.YtbdbobjdlomjnaaGreatDoor.X
attribute [local go_sem] max2_int min2_int max_two min_two max_three min_three max_four min_four add64_0 add64_1 add64
set_option linter.unusedVariables false
set_option linter.unusedSimpArgs false
def rf18_put.f (k : Nat) (a0 : Int) : Option (List Int) := (rf01_Put.f k (IntKind.u64.wrap (a0))).bind fun t180 => (some t180)
theorem rf18_put.mono : ∀ a0 k, LeO (rf18_put.f k a0) (rf18_put.f (k + 1) a0) := by
 intro a0 k
 unfold rf18_put.f
 repeat' first
   | (with_reducible exact rf01_Put.mono _ _)
   | (with_reducible exact LeO.refl _)
   | (with_reducible exact LeO.none _)
   | (with_reducible refine LeO.ite ?_ ?_)
   | (with_reducible refine LeO.bind ?_ (fun _ => ?_))
   | exact rf01_Put.mono _ _
   | exact LeO.none _
   | refine LeO.ite ?_ ?_
   | refine LeO.bind ?_ (fun _ => ?_)
set_option maxHeartbeats 8000000 in
set_option maxRecDepth 100000 in
theorem rf18_put.calls (k : Nat) (a0 : Int) (r : List Int) (w : World) (h : rf18_put.f k a0 = some r) :
  Calls Tryz.prog 40 #[.int .i64 a0] w fun e w' => ∃ v0_ : Value, e = .returned (v0_) ∧ Kd.R (Kd.int .u8) 5 w' w.heap.size (fun _ => True) v0_ r ∧ Below w.heap.size w w' := by
 have HB := Aside0.mk (Below.refl w.heap.size w)
 have H : ((rf01_Put.f k (IntKind.u64.wrap (a0))).bind fun t180 => (some t180)) = some r := h
 clear h
 replace H := Option.bind_eq_some_iff.mp H
 obtain ⟨t180, A20, H⟩ := H
 replace H : (some t180) = some r := H
 have A2 := Aside0.mk A20
 clear A20
 obtain rfl := Option.some.inj H
 go_enter Tryz.func40, Tryz.ntmps40
 go_wp2_with (first | ((with_reducible refine gate_callee (f := 85) rfl ?_); refine goesL_ (some 5) rfl rfl Tryz.func85 (by kernel_rfl) rfl #[.int .u64 (IntKind.u64.wrap (a0))] rfl (by (try simp only [List.map_toArray, List.map_cons, List.map_nil]); first | done | rfl | (simp only [List.length_drop, List.length_take]; rfl)) ?_; (with_reducible refine (rf01_Put.calls k (IntKind.u64.wrap (a0)) t180 _ A2.out).mono ?_); rintro e w3 ⟨v181, rfl, ho0, hb⟩; refine ⟨_, rfl, ?_⟩; have n0_ := Aside0.mk (Kd.R_lower ho0 (below_size (bH HB))); have n1_ := Aside0.mk (below_step (bH HB) hb); clear HB; have HO182 := n0_; have HB := n1_; clear n0_ n1_; (try clear hb); (try clear hb2); (try clear hk); (try clear hi); (try clear ho0)))
 go_ret
 exact ⟨_, by first | rfl | (simp [errW_none, errW_some] <;> rfl) | (simp [*, errW_none, errW_some] <;> rfl), by (with_reducible repeat (first | apply Kd.R_alloc | apply Kd.R_drewN | apply Kd.R_drew)); exact HO182.out, bH HB⟩

def rf05_New.l0 : Nat → Int → List Int → Int → Option (List Int)
 | 0, _, _, _ => none
 | k + 1, x0, x3, x4 => if x4 < x0 then (if x3.length < 17592186044416 then (rf05_New.l0 k x0 (x3 ++ [1]) (wrap64 (x4 + 1))) else (none)) else (some x3)
def rf05_New.f (k : Nat) (a0 : Int) : Option (List Int) := rf05_New.l0 k a0 ([] : List Int) 0
theorem rf05_New.mono_l : ∀ k, (∀ y0 y1 y2, LeO (rf05_New.l0 k y0 y1 y2) (rf05_New.l0 (k + 1) y0 y1 y2))
 | 0 => fun _ _ _ r h => by simp [rf05_New.l0] at h
 | k + 1 => by
  have ih0 := rf05_New.mono_l k
  ·intro y0 y1 y2
   unfold rf05_New.l0
   repeat' first
   | (with_reducible exact ih0 _ _ _)
   | (with_reducible exact LeO.refl _)
   | (with_reducible exact LeO.none _)
   | (with_reducible refine LeO.ite ?_ ?_)
   | (with_reducible refine LeO.bind ?_ (fun _ => ?_))
   | exact ih0 _ _ _
   | exact LeO.none _
   | refine LeO.ite ?_ ?_
   | refine LeO.bind ?_ (fun _ => ?_)
theorem rf05_New.mono : ∀ a0 k, LeO (rf05_New.f k a0) (rf05_New.f (k + 1) a0) := by
 intro a0 k
 have ih0 := rf05_New.mono_l k
 unfold rf05_New.f
 repeat' first
   | (with_reducible exact ih0 _ _ _)
   | (with_reducible exact LeO.refl _)
   | (with_reducible exact LeO.none _)
   | (with_reducible refine LeO.ite ?_ ?_)
   | (with_reducible refine LeO.bind ?_ (fun _ => ?_))
   | exact ih0 _ _ _
   | exact LeO.none _
   | refine LeO.ite ?_ ?_
   | refine LeO.bind ?_ (fun _ => ?_)
set_option maxHeartbeats 8000000 in
set_option maxRecDepth 100000 in
theorem rf05_New.calls (k : Nat) (a0 : Int) (r : List Int) (w : World) (h : rf05_New.f k a0 = some r) :
  Calls Tryz.prog 159 #[.int .i64 a0] w fun e w' => ∃ v0_ : Value, e = .returned (v0_) ∧ Kd.R (Kd.int .i64) 3 w' w.heap.size (fun _ => True) v0_ r ∧ Below w.heap.size w w' := by
 have HB := Aside0.mk (Below.refl w.heap.size w)
 have H : (rf05_New.l0 k a0 ([] : List Int) 0) = some r := h
 clear h
 have H' := Aside0.mk H
 clear H
 go_enter Tryz.func159, Tryz.ntmps159
 go_wp2
 go_loopg [3, 4] k (fun kq v3 v4 w' => ∃ (x3_1 : List Int) (x4_1 : Int), v4 = .int .i64 x4_1 ∧ Aside0 (rf05_New.l0 kq a0 x3_1 x4_1 = some r) ∧ Aside0 (kq ≤ k) ∧ Aside0 (Kd.R (Kd.int .i64) 3 w' w.heap.size (fun _ => True) v3 x3_1) ∧ Aside0 (Below w.heap.size w w'))
 case atStart => exact ⟨(([] : List Int)), (0), (by first | rfl | (simp; done) | (simp [*]; done)), H', ⟨Nat.le_refl _⟩, ⟨by first | exact Kd.R_nil _ _ _ _ _ | exact Kd.N_nil _ _ _ _ _ | exact Kd.V_nil _ _ _ _ _ | exact Kd.Q_nil _ _ _ _ _ | exact Kd.S_nil _ _ _ _ _⟩, ⟨ bH HB⟩⟩
 case round =>
  clear H'
  try clear c1
  obtain ⟨x3_1, x4_1, rfl, HA, HK1, HO_3, HB⟩ := hrel
  cases gk with
  | zero => exact absurd HA.out (by simp [rf05_New.l0])
  | succ k1 =>
   have H := HA.out
   clear HA
   simp only [rf05_New.l0] at H
   by_cases c2 : x4_1 < a0
   ·rw [if_pos c2] at H
    have c2b0 : decide (x4_1 < a0) = true := decide_eq_true c2
    clear c2
    by_cases c3 : x3_1.length < 17592186044416
    ·rw [if_pos c3] at H
     have LMc3 := Aside0.mk c3
     clear c3
     obtain ⟨y183, hy183⟩ : ∃ y_ : List Int, y_ = (x3_1 ++ [1]) := ⟨_, rfl⟩
     replace H : (rf05_New.l0 k1 a0 y183 (wrap64 (x4_1 + 1))) = some r := by first | (rw [hy183]; with_reducible exact H) | (have H2_ := (Option.bind_some _ _).symm.trans H; rw [hy183]; with_reducible exact H2_) | (have H2_ := (Option.bind_some _ _).symm.trans H; with_reducible exact H2_) | with_reducible exact H | (rw [hy183]; exact H) | exact H
     have Ny183 := Aside0.mk hy183
     clear hy183
     have H' := Aside0.mk H
     clear H
     go_wp2_with (first | ((with_reducible refine gate_builtin (b := .append) (xs := #[.tmp 10, .tmp 11]) rfl ?_); at_builtin; refine Kd.R_append (Kd.int .i64) (w0 := w) w.heap.size rfl (.tmp 10) (.tmp 11) 83 3 (.int .i64 0) 8 rfl Tryz.underlying83 info3 rfl (by decide) (by omega) u3 x3_1 1 [.int .i64 1] (fun _ => True) (fun _ => False) rfl rfl ?aP (fun _ hk => hk.elim) ?aF ?aO ?aB ?aS ?aL ?_; (case aP => exact rfl); (case aB => exact (bH HB)); (case aF => exact (fun _ _ => trivial)); (case aO => exact (rK HO_3)); (case aS => exact (below_size (bH HB))); (case aL => have := LMc3.out; omega); intro v184 w4 ho hb hg hat; rw [← Ny183.out] at ho; have n0_ := Aside0.mk (hb); have n1_ := Aside0.mk (ho); clear HB; clear HO_3; have HB := n0_; have HO185 := n1_; clear n0_ n1_; clear ho hb hg hat))
     go_roundg k1
     case measure => have := HK1.out; omega
     case rel => exact ⟨(y183), (wrap64 (x4_1 + 1)), (by first | rfl | (simp; done) | (simp [*]; done)), H', ⟨by have := HK1.out; omega⟩, ⟨by (with_reducible repeat (first | apply Kd.R_alloc | apply Kd.R_drewN | apply Kd.R_drew)); exact HO185.out⟩, ⟨ bH HB⟩⟩
    ·rw [if_neg c3] at H
     exact absurd H (by simp)
   ·rw [if_neg c2] at H
    have c2b0 : decide (x4_1 < a0) = false := decide_eq_false c2
    clear c2
    obtain rfl := Option.some.inj H
    go_wp2
    go_ret
    exact ⟨_, by first | rfl | (simp [errW_none, errW_some] <;> rfl) | (simp [*, errW_none, errW_some] <;> rfl), by (with_reducible repeat (first | apply Kd.R_alloc | apply Kd.R_drewN | apply Kd.R_drew)); exact HO_3.out, bH HB⟩
end Go.Proofs.YtbdbobjdlomjnaaGreatDoor.P
