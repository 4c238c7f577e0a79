/- The walk over a mesh of nothing: no step. No condition. What is foretold of a mesh of nothing: no rest. No condition. What the chapter's examples fix: known. No condition. What the chapter's examples fix stands: known. No condition. Written for this claim by a program of this session (a turned copy of the print): Go functions as Lean functions, and that the Go code comes to just these answers; or a statement proved out of them. No condition. -/
import Derived.Test.YtbdbobjdlomjnaaGreatDoorZ20
import Derived.Test.YtbdbobjdlomjnaaGreatDoorZ19
import Derived.Test.YtbdbobjdlomjnaaGreatDoorZ2

namespace Go.Proofs.YtbdbobjdlomjnaaGreatDoor.Ec
set_option linter.unusedVariables false
set_option linter.unusedSimpArgs false
open Go Go.RowKit Go.Proofs.YtbdbobjdlomjnaaGreatDoor.P Go.Proofs.YtbdbobjdlomjnaaGreatDoor.X Go.Proofs.YtbdbobjdlomjnaaGreatDoorW.PrintWords Go.Proofs.YtbdbobjdlomjnaaGreatDoorW.PrintLast Go.Proofs.YtbdbobjdlomjnaaGreatDoorW.PrintMore
set_option maxHeartbeats 8000000
set_option maxRecDepth 100000
def wk0 (a b c : Value) : Array Value := #[.slice none 0 0, .slice none 0 0, a, b, c, .slice none 0 0, .slice none 0 0, .slice none 0 0, .slice none 0 0, .slice none 0 0]
theorem begun0_calls (w : World) :
  Calls Tryz.prog 128 #[.agg #[.slice none 0 0, .slice none 0 0]] w fun e w' => (∃ h a b c, e = .returned (.tuple #[.pointer (some ⟨h, 0, none⟩), .int .i64 0]) ∧ w'.heap[h]? = some (.cells (wk0 a b c) 150 (0, 0))) ∧ Below w.heap.size w w' := by
 have hu := Tryz.underlying25
 have hu2 := Tryz.underlying150
 have hck := fun W => check0_calls W
 go_enter Tryz.func128, Tryz.ntmps128
 go_upto_region 1 with (fail)
 have hb : Below w.heap.size w (w.alloc (.cells #[.slice none 0 0, .slice none 0 0] 25)) := below_alloc (Below.refl _ w) _
 have hg := heap_alloc_new w (.cells #[.slice none 0 0, .slice none 0 0] 25)
 generalize w.alloc (.cells #[.slice none 0 0, .slice none 0 0] 25) = w1 at hb hg ⊢
 have y0 : w1.cell? ⟨w.heap.size, 0, none⟩ = some (.slice none 0 0) := (blk_cell hg 0).trans rfl
 have y1 : w1.cell? ⟨w.heap.size, 1, none⟩ = some (.slice none 0 0) := (blk_cell hg 1).trans rfl
 go_upto_region 4 with (go_at_call 143; refine (hck _).mono ?_; rintro e w5 ⟨rfl, hb5⟩)
 have hB5 := below_step hb hb5
 have hg5 := blk_below hg hb5
 clear y0 y1 hb5 hg hck
 have hmm := @run_makeMap Tryz.prog
 have hmk := print_make (P := Tryz.prog) 83 3 .i64 8 Tryz.underlying83 (by kernel_rfl) (by decide) 0 (by omega)
 have hmb := fun W : World => run_make_row' (P := Tryz.prog) 148 4 (.bool false) 1 Tryz.underlying148 (by kernel_rfl) rfl .i64 .i64 0 (by omega) (by omega) W
 rw [show ((0 : Nat) : Int) = 0 from rfl] at hmk
 simp only [show ((0 : Nat) : Int) = 0 from rfl] at hmb
 obtain ⟨g0, hg0⟩ : ∃ g0, g0 = w.heap.size := ⟨_, rfl⟩
 rw [← hg0] at hg5 ⊢
 have HG0 := Aside0.mk hg0
 clear hg0
 have y0 : w5.cell? ⟨g0, 0, none⟩ = some (.slice none 0 0) := (blk_cell hg5 0).trans rfl
 have y1 : w5.cell? ⟨g0, 1, none⟩ = some (.slice none 0 0) := (blk_cell hg5 1).trans rfl
--REGION4
 refine start_ (n := 13) (S := fun w' => w'.cell? ⟨g0, 0, none⟩ = some (.slice none 0 0) ∧ w'.cell? ⟨g0, 1, none⟩ = some (.slice none 0 0)) (ds := []) #[false, false, false, false, false, false, false, false, false, false, false, false, false] (by kernel_rfl) rfl rfl ⟨y0, y1⟩ (fun hHeld => ?_)
 refine pure_ (i := 2) (N := some 16) (v := ?_) (a' := ?_) #[false, false, true, false, false, false, false, false, false, false, false, false, false] rfl rfl (by kernel_rfl) (fun _ _ _ h => h) (Or.inl ⟨by rfl, ?_⟩) ?_ ?_
 rotate_left
 ·intro w'
  go_simp
  with_reducible rfl
 rotate_left
 ·simp only [Act.put, List.setIfInBounds_toArray, List.set_cons_zero, List.set_cons_succ, i64_w, i32_w]
  rfl
 refine pure_ (i := 6) (N := some 20) (v := ?_) (a' := ?_) #[false, false, true, false, false, false, true, false, false, false, false, false, false] rfl rfl (by kernel_rfl) (fun _ _ _ h => h) (Or.inl ⟨by rfl, ?_⟩) ?_ ?_
 rotate_left
 ·intro w'
  go_simp
  with_reducible rfl
 rotate_left
 ·simp only [Act.put, List.setIfInBounds_toArray, List.set_cons_zero, List.set_cons_succ, i64_w, i32_w]
  rfl
 refine take_ (i := 0) (N := some 14) (v := ?_) (a' := ?_) #[true, false, true, false, false, false, true, false, false, false, false, false, false] rfl rfl (by kernel_rfl) (fun _ _ _ h => h) (Or.inl ⟨by rfl, ?_⟩) hHeld ?_ ?_
 rotate_left
 ·rintro w' ⟨s0, s1⟩
  go_simp
  with_reducible rfl
 rotate_left
 ·simp only [Act.put, List.setIfInBounds_toArray, List.set_cons_zero, List.set_cons_succ, i64_w, i32_w]
  rfl
 refine take_ (i := 3) (N := some 17) (v := ?_) (a' := ?_) #[true, false, true, true, false, false, true, false, false, false, false, false, false] rfl rfl (by kernel_rfl) (fun _ _ _ h => h) (Or.inl ⟨by rfl, ?_⟩) hHeld ?_ ?_
 rotate_left
 ·rintro w' ⟨s0, s1⟩
  go_simp
  with_reducible rfl
 rotate_left
 ·simp only [Act.put, List.setIfInBounds_toArray, List.set_cons_zero, List.set_cons_succ, i64_w, i32_w]
  rfl
 refine pure_ (i := 4) (N := some 18) (v := ?_) (a' := ?_) #[true, false, true, true, true, false, true, false, false, false, false, false, false] rfl rfl (by kernel_rfl) (fun _ _ _ h => h) (Or.inl ⟨by rfl, ?_⟩) ?_ ?_
 rotate_left
 ·intro w'
  go_simp
  with_reducible rfl
 rotate_left
 ·simp only [Act.put, List.setIfInBounds_toArray, List.set_cons_zero, List.set_cons_succ, i64_w, i32_w]
  rfl
 refine take_ (i := 7) (N := some 21) (v := ?_) (a' := ?_) #[true, false, true, true, true, false, true, true, false, false, false, false, false] rfl rfl (by kernel_rfl) (fun _ _ _ h => h) (Or.inl ⟨by rfl, ?_⟩) hHeld ?_ ?_
 rotate_left
 ·rintro w' ⟨s0, s1⟩
  go_simp
  with_reducible rfl
 rotate_left
 ·simp only [Act.put, List.setIfInBounds_toArray, List.set_cons_zero, List.set_cons_succ, i64_w, i32_w]
  rfl
 refine pure_ (i := 8) (N := some 22) (v := ?_) (a' := ?_) #[true, false, true, true, true, false, true, true, true, false, false, false, false] rfl rfl (by kernel_rfl) (fun _ _ _ h => h) (Or.inl ⟨by rfl, ?_⟩) ?_ ?_
 rotate_left
 ·intro w'
  go_simp
  with_reducible rfl
 rotate_left
 ·simp only [Act.put, List.setIfInBounds_toArray, List.set_cons_zero, List.set_cons_succ, i64_w, i32_w]
  rfl
 refine join_ (σ := Nat × Nat × Nat) 3 #[true, true, true, true, true, true, true, true, true, true, false, false, false] (fun s_ => [(15, .map (some s_.1)), (19, .slice (some ⟨s_.2.1, 0, none⟩) 0 0), (23, .slice (some ⟨s_.2.2, 0, none⟩) 0 0)]) (fun s_ w' => Below w5.heap.size w5 w') ?_ ?_
 rotate_left
 ·intro hCont
  refine three_ (i := 1) (j := 5) (k := 9) (Ni := some 15) (Nj := some 19) (Nk := some 23) #[true, true, true, true, true, false, true, true, true, false, false, false, false] #[true, false, true, true, true, true, true, true, true, false, false, false, false] #[true, false, true, true, true, false, true, true, true, true, false, false, false] rfl rfl rfl rfl rfl rfl (by kernel_rfl) (by decide) (by decide) (by decide) (fun K hK => ?_) (fun K hK => ?_) (fun K hK => ?_)
  ·skip
   refine value_ (w1 := ?_) (v := ?_) (by rfl) rfl ?_ ?_
   rotate_left 2
   ·go_simp
    constructor
    ·rfl
    ·rfl
   refine hK.out _ _ ⟨(((Below.refl _ _).alloc (Nat.le_refl _) _).cell (World.block_lt_of_cell? _ _ hHeld.1)).trans hHeld.1, (((Below.refl _ _).alloc (Nat.le_refl _) _).cell (World.block_lt_of_cell? _ _ hHeld.2)).trans hHeld.2⟩ (fun hHeld => ?_)
   clear hK K
   refine norm_ (a' := ?_) ?_ ?_
   rotate_left
   ·show Act.put _ (some 15) _ = _
    simp only [Act.put, List.setIfInBounds_toArray, List.set_cons_zero, List.set_cons_succ, i64_w, i32_w]
    rfl
   refine two_ (i := 5) (j := 9) (Ni := some 19) (Nj := some 23) #[true, true, true, true, true, true, true, true, true, false, false, false, false] #[true, true, true, true, true, false, true, true, true, true, false, false, false] rfl rfl rfl rfl (by kernel_rfl) (by decide) (by decide) (fun K hK => ?_) (fun K hK => ?_)
   ·skip
    refine value_ (w1 := ?_) (v := ?_) (by rfl) rfl ?_ ?_
    rotate_left 2
    ·go_simp
     constructor
     ·rfl
     ·rfl
    refine hK.out _ _ ⟨(((Below.refl _ _).alloc (Nat.le_refl _) _).cell (World.block_lt_of_cell? _ _ hHeld.1)).trans hHeld.1, (((Below.refl _ _).alloc (Nat.le_refl _) _).cell (World.block_lt_of_cell? _ _ hHeld.2)).trans hHeld.2⟩ (fun hHeld => ?_)
    clear hK K
    refine norm_ (a' := ?_) ?_ ?_
    rotate_left
    ·show Act.put _ (some 19) _ = _
     simp only [Act.put, List.setIfInBounds_toArray, List.set_cons_zero, List.set_cons_succ, i64_w, i32_w]
     rfl
    refine one_ (i := 9) (N := some 23) #[true, true, true, true, true, true, true, true, true, true, false, false, false] rfl rfl (by kernel_rfl) (by decide) (fun K hK => ?_)
    refine value_ (w1 := ?_) (v := ?_) (by rfl) rfl ?_ ?_
    rotate_left 2
    ·go_simp
     constructor
     ·rfl
     ·rfl
    refine hK.out _ _ ⟨(((Below.refl _ _).alloc (Nat.le_refl _) _).cell (World.block_lt_of_cell? _ _ hHeld.1)).trans hHeld.1, (((Below.refl _ _).alloc (Nat.le_refl _) _).cell (World.block_lt_of_cell? _ _ hHeld.2)).trans hHeld.2⟩ (fun hHeld => ?_)
    clear hK K
    refine norm_ (a' := ?_) ?_ ?_
    rotate_left
    ·show Act.put _ (some 23) _ = _
     simp only [Act.put, List.setIfInBounds_toArray, List.set_cons_zero, List.set_cons_succ, i64_w, i32_w]
     rfl
    exact norm_ (by simp only [putAll, Act.put, List.setIfInBounds_toArray, List.set_cons_zero, List.set_cons_succ]) (hCont (w5.heap.size, (w5.heap.size + 1), (w5.heap.size + 1 + 1)) _ (by repeat (first | exact Below.refl _ _ | apply below_alloc | apply below_drew)))
   ·skip
    refine value_ (w1 := ?_) (v := ?_) (by rfl) rfl ?_ ?_
    rotate_left 2
    ·go_simp
     constructor
     ·rfl
     ·rfl
    refine hK.out _ _ ⟨(((Below.refl _ _).alloc (Nat.le_refl _) _).cell (World.block_lt_of_cell? _ _ hHeld.1)).trans hHeld.1, (((Below.refl _ _).alloc (Nat.le_refl _) _).cell (World.block_lt_of_cell? _ _ hHeld.2)).trans hHeld.2⟩ (fun hHeld => ?_)
    clear hK K
    refine norm_ (a' := ?_) ?_ ?_
    rotate_left
    ·show Act.put _ (some 23) _ = _
     simp only [Act.put, List.setIfInBounds_toArray, List.set_cons_zero, List.set_cons_succ, i64_w, i32_w]
     rfl
    refine one_ (i := 5) (N := some 19) #[true, true, true, true, true, true, true, true, true, true, false, false, false] rfl rfl (by kernel_rfl) (by decide) (fun K hK => ?_)
    refine value_ (w1 := ?_) (v := ?_) (by rfl) rfl ?_ ?_
    rotate_left 2
    ·go_simp
     constructor
     ·rfl
     ·rfl
    refine hK.out _ _ ⟨(((Below.refl _ _).alloc (Nat.le_refl _) _).cell (World.block_lt_of_cell? _ _ hHeld.1)).trans hHeld.1, (((Below.refl _ _).alloc (Nat.le_refl _) _).cell (World.block_lt_of_cell? _ _ hHeld.2)).trans hHeld.2⟩ (fun hHeld => ?_)
    clear hK K
    refine norm_ (a' := ?_) ?_ ?_
    rotate_left
    ·show Act.put _ (some 19) _ = _
     simp only [Act.put, List.setIfInBounds_toArray, List.set_cons_zero, List.set_cons_succ, i64_w, i32_w]
     rfl
    exact norm_ (by simp only [putAll, Act.put, List.setIfInBounds_toArray, List.set_cons_zero, List.set_cons_succ]) (hCont (w5.heap.size, (w5.heap.size + 1 + 1), (w5.heap.size + 1)) _ (by repeat (first | exact Below.refl _ _ | apply below_alloc | apply below_drew)))
  ·skip
   refine value_ (w1 := ?_) (v := ?_) (by rfl) rfl ?_ ?_
   rotate_left 2
   ·go_simp
    constructor
    ·rfl
    ·rfl
   refine hK.out _ _ ⟨(((Below.refl _ _).alloc (Nat.le_refl _) _).cell (World.block_lt_of_cell? _ _ hHeld.1)).trans hHeld.1, (((Below.refl _ _).alloc (Nat.le_refl _) _).cell (World.block_lt_of_cell? _ _ hHeld.2)).trans hHeld.2⟩ (fun hHeld => ?_)
   clear hK K
   refine norm_ (a' := ?_) ?_ ?_
   rotate_left
   ·show Act.put _ (some 19) _ = _
    simp only [Act.put, List.setIfInBounds_toArray, List.set_cons_zero, List.set_cons_succ, i64_w, i32_w]
    rfl
   refine two_ (i := 1) (j := 9) (Ni := some 15) (Nj := some 23) #[true, true, true, true, true, true, true, true, true, false, false, false, false] #[true, false, true, true, true, true, true, true, true, true, false, false, false] rfl rfl rfl rfl (by kernel_rfl) (by decide) (by decide) (fun K hK => ?_) (fun K hK => ?_)
   ·skip
    refine value_ (w1 := ?_) (v := ?_) (by rfl) rfl ?_ ?_
    rotate_left 2
    ·go_simp
     constructor
     ·rfl
     ·rfl
    refine hK.out _ _ ⟨(((Below.refl _ _).alloc (Nat.le_refl _) _).cell (World.block_lt_of_cell? _ _ hHeld.1)).trans hHeld.1, (((Below.refl _ _).alloc (Nat.le_refl _) _).cell (World.block_lt_of_cell? _ _ hHeld.2)).trans hHeld.2⟩ (fun hHeld => ?_)
    clear hK K
    refine norm_ (a' := ?_) ?_ ?_
    rotate_left
    ·show Act.put _ (some 15) _ = _
     simp only [Act.put, List.setIfInBounds_toArray, List.set_cons_zero, List.set_cons_succ, i64_w, i32_w]
     rfl
    refine one_ (i := 9) (N := some 23) #[true, true, true, true, true, true, true, true, true, true, false, false, false] rfl rfl (by kernel_rfl) (by decide) (fun K hK => ?_)
    refine value_ (w1 := ?_) (v := ?_) (by rfl) rfl ?_ ?_
    rotate_left 2
    ·go_simp
     constructor
     ·rfl
     ·rfl
    refine hK.out _ _ ⟨(((Below.refl _ _).alloc (Nat.le_refl _) _).cell (World.block_lt_of_cell? _ _ hHeld.1)).trans hHeld.1, (((Below.refl _ _).alloc (Nat.le_refl _) _).cell (World.block_lt_of_cell? _ _ hHeld.2)).trans hHeld.2⟩ (fun hHeld => ?_)
    clear hK K
    refine norm_ (a' := ?_) ?_ ?_
    rotate_left
    ·show Act.put _ (some 23) _ = _
     simp only [Act.put, List.setIfInBounds_toArray, List.set_cons_zero, List.set_cons_succ, i64_w, i32_w]
     rfl
    exact norm_ (by simp only [putAll, Act.put, List.setIfInBounds_toArray, List.set_cons_zero, List.set_cons_succ]) (hCont ((w5.heap.size + 1), w5.heap.size, (w5.heap.size + 1 + 1)) _ (by repeat (first | exact Below.refl _ _ | apply below_alloc | apply below_drew)))
   ·skip
    refine value_ (w1 := ?_) (v := ?_) (by rfl) rfl ?_ ?_
    rotate_left 2
    ·go_simp
     constructor
     ·rfl
     ·rfl
    refine hK.out _ _ ⟨(((Below.refl _ _).alloc (Nat.le_refl _) _).cell (World.block_lt_of_cell? _ _ hHeld.1)).trans hHeld.1, (((Below.refl _ _).alloc (Nat.le_refl _) _).cell (World.block_lt_of_cell? _ _ hHeld.2)).trans hHeld.2⟩ (fun hHeld => ?_)
    clear hK K
    refine norm_ (a' := ?_) ?_ ?_
    rotate_left
    ·show Act.put _ (some 23) _ = _
     simp only [Act.put, List.setIfInBounds_toArray, List.set_cons_zero, List.set_cons_succ, i64_w, i32_w]
     rfl
    refine one_ (i := 1) (N := some 15) #[true, true, true, true, true, true, true, true, true, true, false, false, false] rfl rfl (by kernel_rfl) (by decide) (fun K hK => ?_)
    refine value_ (w1 := ?_) (v := ?_) (by rfl) rfl ?_ ?_
    rotate_left 2
    ·go_simp
     constructor
     ·rfl
     ·rfl
    refine hK.out _ _ ⟨(((Below.refl _ _).alloc (Nat.le_refl _) _).cell (World.block_lt_of_cell? _ _ hHeld.1)).trans hHeld.1, (((Below.refl _ _).alloc (Nat.le_refl _) _).cell (World.block_lt_of_cell? _ _ hHeld.2)).trans hHeld.2⟩ (fun hHeld => ?_)
    clear hK K
    refine norm_ (a' := ?_) ?_ ?_
    rotate_left
    ·show Act.put _ (some 15) _ = _
     simp only [Act.put, List.setIfInBounds_toArray, List.set_cons_zero, List.set_cons_succ, i64_w, i32_w]
     rfl
    exact norm_ (by simp only [putAll, Act.put, List.setIfInBounds_toArray, List.set_cons_zero, List.set_cons_succ]) (hCont ((w5.heap.size + 1 + 1), w5.heap.size, (w5.heap.size + 1)) _ (by repeat (first | exact Below.refl _ _ | apply below_alloc | apply below_drew)))
  ·skip
   refine value_ (w1 := ?_) (v := ?_) (by rfl) rfl ?_ ?_
   rotate_left 2
   ·go_simp
    constructor
    ·rfl
    ·rfl
   refine hK.out _ _ ⟨(((Below.refl _ _).alloc (Nat.le_refl _) _).cell (World.block_lt_of_cell? _ _ hHeld.1)).trans hHeld.1, (((Below.refl _ _).alloc (Nat.le_refl _) _).cell (World.block_lt_of_cell? _ _ hHeld.2)).trans hHeld.2⟩ (fun hHeld => ?_)
   clear hK K
   refine norm_ (a' := ?_) ?_ ?_
   rotate_left
   ·show Act.put _ (some 23) _ = _
    simp only [Act.put, List.setIfInBounds_toArray, List.set_cons_zero, List.set_cons_succ, i64_w, i32_w]
    rfl
   refine two_ (i := 1) (j := 5) (Ni := some 15) (Nj := some 19) #[true, true, true, true, true, false, true, true, true, true, false, false, false] #[true, false, true, true, true, true, true, true, true, true, false, false, false] rfl rfl rfl rfl (by kernel_rfl) (by decide) (by decide) (fun K hK => ?_) (fun K hK => ?_)
   ·skip
    refine value_ (w1 := ?_) (v := ?_) (by rfl) rfl ?_ ?_
    rotate_left 2
    ·go_simp
     constructor
     ·rfl
     ·rfl
    refine hK.out _ _ ⟨(((Below.refl _ _).alloc (Nat.le_refl _) _).cell (World.block_lt_of_cell? _ _ hHeld.1)).trans hHeld.1, (((Below.refl _ _).alloc (Nat.le_refl _) _).cell (World.block_lt_of_cell? _ _ hHeld.2)).trans hHeld.2⟩ (fun hHeld => ?_)
    clear hK K
    refine norm_ (a' := ?_) ?_ ?_
    rotate_left
    ·show Act.put _ (some 15) _ = _
     simp only [Act.put, List.setIfInBounds_toArray, List.set_cons_zero, List.set_cons_succ, i64_w, i32_w]
     rfl
    refine one_ (i := 5) (N := some 19) #[true, true, true, true, true, true, true, true, true, true, false, false, false] rfl rfl (by kernel_rfl) (by decide) (fun K hK => ?_)
    refine value_ (w1 := ?_) (v := ?_) (by rfl) rfl ?_ ?_
    rotate_left 2
    ·go_simp
     constructor
     ·rfl
     ·rfl
    refine hK.out _ _ ⟨(((Below.refl _ _).alloc (Nat.le_refl _) _).cell (World.block_lt_of_cell? _ _ hHeld.1)).trans hHeld.1, (((Below.refl _ _).alloc (Nat.le_refl _) _).cell (World.block_lt_of_cell? _ _ hHeld.2)).trans hHeld.2⟩ (fun hHeld => ?_)
    clear hK K
    refine norm_ (a' := ?_) ?_ ?_
    rotate_left
    ·show Act.put _ (some 19) _ = _
     simp only [Act.put, List.setIfInBounds_toArray, List.set_cons_zero, List.set_cons_succ, i64_w, i32_w]
     rfl
    exact norm_ (by simp only [putAll, Act.put, List.setIfInBounds_toArray, List.set_cons_zero, List.set_cons_succ]) (hCont ((w5.heap.size + 1), (w5.heap.size + 1 + 1), w5.heap.size) _ (by repeat (first | exact Below.refl _ _ | apply below_alloc | apply below_drew)))
   ·skip
    refine value_ (w1 := ?_) (v := ?_) (by rfl) rfl ?_ ?_
    rotate_left 2
    ·go_simp
     constructor
     ·rfl
     ·rfl
    refine hK.out _ _ ⟨(((Below.refl _ _).alloc (Nat.le_refl _) _).cell (World.block_lt_of_cell? _ _ hHeld.1)).trans hHeld.1, (((Below.refl _ _).alloc (Nat.le_refl _) _).cell (World.block_lt_of_cell? _ _ hHeld.2)).trans hHeld.2⟩ (fun hHeld => ?_)
    clear hK K
    refine norm_ (a' := ?_) ?_ ?_
    rotate_left
    ·show Act.put _ (some 19) _ = _
     simp only [Act.put, List.setIfInBounds_toArray, List.set_cons_zero, List.set_cons_succ, i64_w, i32_w]
     rfl
    refine one_ (i := 1) (N := some 15) #[true, true, true, true, true, true, true, true, true, true, false, false, false] rfl rfl (by kernel_rfl) (by decide) (fun K hK => ?_)
    refine value_ (w1 := ?_) (v := ?_) (by rfl) rfl ?_ ?_
    rotate_left 2
    ·go_simp
     constructor
     ·rfl
     ·rfl
    refine hK.out _ _ ⟨(((Below.refl _ _).alloc (Nat.le_refl _) _).cell (World.block_lt_of_cell? _ _ hHeld.1)).trans hHeld.1, (((Below.refl _ _).alloc (Nat.le_refl _) _).cell (World.block_lt_of_cell? _ _ hHeld.2)).trans hHeld.2⟩ (fun hHeld => ?_)
    clear hK K
    refine norm_ (a' := ?_) ?_ ?_
    rotate_left
    ·show Act.put _ (some 15) _ = _
     simp only [Act.put, List.setIfInBounds_toArray, List.set_cons_zero, List.set_cons_succ, i64_w, i32_w]
     rfl
    exact norm_ (by simp only [putAll, Act.put, List.setIfInBounds_toArray, List.set_cons_zero, List.set_cons_succ]) (hCont ((w5.heap.size + 1 + 1), (w5.heap.size + 1), w5.heap.size) _ (by repeat (first | exact Below.refl _ _ | apply below_alloc | apply below_drew)))
 rintro ⟨s1, s2, s3⟩ w6 hb6
 have hHeld : w6.cell? ⟨g0, 0, none⟩ = some (.slice none 0 0) ∧ w6.cell? ⟨g0, 1, none⟩ = some (.slice none 0 0) := ⟨(hb6.cell (World.block_lt_of_cell? _ _ y0)).trans y0, (hb6.cell (World.block_lt_of_cell? _ _ y1)).trans y1⟩
 refine norm_ (a' := ?_) ?_ ?_
 rotate_left
 ·simp only [putAll, Act.put, List.setIfInBounds_toArray, List.set_cons_zero, List.set_cons_succ]
  rfl
 refine pure_ (i := 10) (N := some 24) (v := ?_) (a' := ?_) #[true, true, true, true, true, true, true, true, true, true, true, false, false] rfl rfl (by kernel_rfl) (fun _ _ _ h => h) (Or.inl ⟨by rfl, ?_⟩) ?_ ?_
 rotate_left
 ·intro w'
  go_simp
  with_reducible rfl
 rotate_left
 ·simp only [Act.put, List.setIfInBounds_toArray, List.set_cons_zero, List.set_cons_succ, i64_w, i32_w]
  rfl
 refine one_ (i := 11) (N := some 25) #[true, true, true, true, true, true, true, true, true, true, true, true, false] rfl rfl (by kernel_rfl) (by decide) (fun K hK => ?_)
 refine value_ (w1 := ?_) (v := ?_) (by rfl) rfl ?_ ?_
 rotate_left 2
 ·go_simp
  constructor
  ·rfl
  ·rfl
 refine hK.out _ _ ⟨(((Below.refl _ _).alloc (Nat.le_refl _) _).cell (World.block_lt_of_cell? _ _ hHeld.1)).trans hHeld.1, (((Below.refl _ _).alloc (Nat.le_refl _) _).cell (World.block_lt_of_cell? _ _ hHeld.2)).trans hHeld.2⟩ (fun hHeld => ?_)
 clear hK K
 refine norm_ (a' := ?_) ?_ ?_
 rotate_left
 ·show Act.put _ (some 25) _ = _
  simp only [Act.put, List.setIfInBounds_toArray, List.set_cons_zero, List.set_cons_succ, i64_w, i32_w]
  rfl
 refine pure_ (i := 12) (N := some 5) (v := ?_) (a' := ?_) #[true, true, true, true, true, true, true, true, true, true, true, true, true] rfl rfl (by kernel_rfl) (fun _ _ _ h => h) (Or.inl ⟨by rfl, ?_⟩) ?_ ?_
 rotate_left
 ·intro w'
  go_simp
  with_reducible rfl
 rotate_left
 ·simp only [Act.put, List.setIfInBounds_toArray, List.set_cons_zero, List.set_cons_succ, i64_w, i32_w]
  rfl
 refine done_ (by kernel_rfl) ?_
 
 --END4
 have hb7 : Below w5.heap.size w5 (w6.alloc (.cells (wk0 (.map (some s1)) (.slice (some ⟨s2, 0, none⟩) 0 0) (.slice (some ⟨s3, 0, none⟩) 0 0)) 150)) := below_alloc hb6 _
 have hg7 := heap_alloc_new w6 (.cells (wk0 (.map (some s1)) (.slice (some ⟨s2, 0, none⟩) 0 0) (.slice (some ⟨s3, 0, none⟩) 0 0)) 150)
 change Exit.then _ _ _ _ (w6.alloc (.cells (wk0 (.map (some s1)) (.slice (some ⟨s2, 0, none⟩) 0 0) (.slice (some ⟨s3, 0, none⟩) 0 0)) 150))
 generalize w6.alloc (.cells (wk0 (.map (some s1)) (.slice (some ⟨s2, 0, none⟩) 0 0) (.slice (some ⟨s3, 0, none⟩) 0 0)) 150) = w7 at hb7 hg7 ⊢
 have hB7 := below_step hB5 hb7
 clear y0 y1 hHeld
 have y1 : w7.cell? ⟨g0, 1, none⟩ = some (.slice none 0 0) := (blk_cell (blk_below hg5 hb7) 1).trans rfl
 generalize w6.heap.size = h at hg7 ⊢
 clear hb6 hb7 hg5
 go_wp2
 go_loopw [29] (fun v wr => v = .int .i64 0 ∧ w7 = wr) (fun _ _ => 0)
 case atStart => exact ⟨rfl, rfl⟩
 case round =>
  obtain ⟨rfl, rfl⟩ := hrel
  go_wp2
  go_ret2
  exact ⟨⟨h, _, _, _, rfl, hg7⟩, hB7⟩
theorem walk0_calls (w : World) (h : Nat) (a b c : Value) (hg : w.heap[h]? = some (.cells (wk0 a b c) 150 (0, 0))) :
  Calls Tryz.prog 129 #[.pointer (some ⟨h, 0, none⟩)] w fun e w' => e = .returned (.tuple #[]) ∧ w = w' := by
 have hu := Tryz.underlying25
 have hu2 := Tryz.underlying150
 have y1 : w.cell? ⟨h, 1, none⟩ = some (.slice none 0 0) := (blk_cell hg 1).trans rfl
 go_enter Tryz.func129, Tryz.ntmps129
 go_wp2_with (go_step3)
 go_loopw [13] (fun v wr => v = .int .i64 0 ∧ w = wr) (fun _ _ => 0)
 case atStart => exact ⟨rfl, rfl⟩
 case round =>
  obtain ⟨rfl, rfl⟩ := hrel
  go_wp2_with (go_step3)
  first | rw [Exit.noGoto_normal] | unfold Exit.noGoto
  go_end0
  exact ⟨rfl, rfl⟩
theorem walked0_calls (w : World) :
  Calls Tryz.prog 73 #[.agg #[.slice none 0 0, .slice none 0 0]] w fun e w' => (∃ h a b c, e = .returned (.tuple #[.pointer (some ⟨h, 0, none⟩), .int .i64 0]) ∧ w'.heap[h]? = some (.cells (wk0 a b c) 150 (0, 0))) ∧ Below w.heap.size w w' := by
 have hu := Tryz.underlying25
 have hu2 := Tryz.underlying150
 have hbg := fun W => begun0_calls W
 go_enter Tryz.func73, Tryz.ntmps73
 go_upto_region 1 with (fail)
 have hb : Below w.heap.size w (w.alloc (.cells #[.slice none 0 0, .slice none 0 0] 25)) := below_alloc (Below.refl _ w) _
 have hg := heap_alloc_new w (.cells #[.slice none 0 0, .slice none 0 0] 25)
 generalize w.alloc (.cells #[.slice none 0 0, .slice none 0 0] 25) = w1 at hb hg ⊢
 have y0 : w1.cell? ⟨w.heap.size, 0, none⟩ = some (.slice none 0 0) := (blk_cell hg 0).trans rfl
 have y1 : w1.cell? ⟨w.heap.size, 1, none⟩ = some (.slice none 0 0) := (blk_cell hg 1).trans rfl
 go_upto_region 2 with (go_at_call 128; refine (hbg _).mono ?_; rintro e w5 ⟨⟨h, a, b, c, rfl, hg5⟩, hb5⟩)
 have hB5 := below_step hb hb5
 clear hbg y0 y1 hb5 hg hb
 have hwk := walk0_calls w5 h a b c hg5
 go_wp2_with (go_at_call 129; refine hwk.mono ?_; rintro e w6 ⟨rfl, rfl⟩)
 go_ret2
 exact ⟨⟨h, a, b, c, rfl, hg5⟩, hB5⟩
theorem steps0_calls (w : World) :
  Calls Tryz.prog 34 #[.agg #[.slice none 0 0, .slice none 0 0]] w fun e w' => e = .returned (.tuple #[.slice none 0 0, .int .i64 0]) ∧ Below w.heap.size w w' := by
 have hu := Tryz.underlying25
 have hu2 := Tryz.underlying150
 have hwd := fun W => walked0_calls W
 go_enter Tryz.func34, Tryz.ntmps34
 go_upto_region 1 with (fail)
 have hb : Below w.heap.size w (w.alloc (.cells #[.slice none 0 0, .slice none 0 0] 25)) := below_alloc (Below.refl _ w) _
 have hg := heap_alloc_new w (.cells #[.slice none 0 0, .slice none 0 0] 25)
 generalize w.alloc (.cells #[.slice none 0 0, .slice none 0 0] 25) = w1 at hb hg ⊢
 have y0 : w1.cell? ⟨w.heap.size, 0, none⟩ = some (.slice none 0 0) := (blk_cell hg 0).trans rfl
 have y1 : w1.cell? ⟨w.heap.size, 1, none⟩ = some (.slice none 0 0) := (blk_cell hg 1).trans rfl
 go_upto_region 4 with (go_at_call 73; refine (hwd _).mono ?_; rintro e w5 ⟨⟨h, a, b, c, rfl, hg5⟩, hb5⟩)
 have hB5 := below_step hb hb5
 clear hwd y0 y1 hb5 hg hb
 have y9 : w5.cell? ⟨h, 9, none⟩ = some (.slice none 0 0) := (blk_cell hg5 9).trans rfl
 go_wp2
 go_ret2
 exact ⟨rfl, hB5⟩
theorem canon0_calls (w : World) :
  Calls Tryz.prog 35 #[.agg #[.slice none 0 0, .slice none 0 0]] w fun e w' => e = .returned (.tuple #[.agg #[.slice none 0 0, .slice none 0 0], .int .i64 0]) ∧ Below w.heap.size w w' := by
 have hu := Tryz.underlying25
 have hu2 := Tryz.underlying150
 have hwd := fun W => walked0_calls W
 go_enter Tryz.func35, Tryz.ntmps35
 go_upto_region 1 with (fail)
 have hb : Below w.heap.size w (w.alloc (.cells #[.slice none 0 0, .slice none 0 0] 25)) := below_alloc (Below.refl _ w) _
 have hg := heap_alloc_new w (.cells #[.slice none 0 0, .slice none 0 0] 25)
 have hb2 : Below w.heap.size w ((w.alloc (.cells #[.slice none 0 0, .slice none 0 0] 25)).alloc (.cells #[.slice none 0 0, .slice none 0 0] 25)) := below_alloc hb _
 have hg2 := heap_alloc_new (w.alloc (.cells #[.slice none 0 0, .slice none 0 0] 25)) (.cells #[.slice none 0 0, .slice none 0 0] 25)
 rw [show (w.alloc (.cells #[.slice none 0 0, .slice none 0 0] 25)).heap.size = w.heap.size + 1 by simp] at hg2
 have hg1 := blk_alloc hg (.cells #[.slice none 0 0, .slice none 0 0] 25)
 generalize (w.alloc (.cells #[.slice none 0 0, .slice none 0 0] 25)).alloc (.cells #[.slice none 0 0, .slice none 0 0] 25) = w1 at hb2 hg2 hg1 ⊢
 clear hb hg
 have y0 : w1.cell? ⟨w.heap.size, 0, none⟩ = some (.slice none 0 0) := (blk_cell hg1 0).trans rfl
 have y1 : w1.cell? ⟨w.heap.size, 1, none⟩ = some (.slice none 0 0) := (blk_cell hg1 1).trans rfl
 go_upto_region 4 with (go_at_call 73; refine (hwd _).mono ?_; rintro e w5 ⟨⟨h, a, b, c, rfl, hg5⟩, hb5⟩)
 have hB5 := below_step hb2 hb5
 have hg3 := blk_below hg2 hb5
 clear hwd y0 y1 hb5 hg2 hb2 hg1
 have hle : w.heap.size ≤ w.heap.size + 1 := Nat.le_succ _
 generalize w.heap.size + 1 = g1 at hg3 hle ⊢
 have y5 : w5.cell? ⟨h, 5, none⟩ = some (.slice none 0 0) := (blk_cell hg5 5).trans rfl
 have y7 : w5.cell? ⟨h, 7, none⟩ = some (.slice none 0 0) := (blk_cell hg5 7).trans rfl
 go_upto_region 5 with (fail)
 have hb6 : Below w5.heap.size w5 (w5.alloc (.cells #[.slice none 0 0, .slice none 0 0] 25)) := below_alloc (Below.refl _ w5) _
 have hg6 := heap_alloc_new w5 (.cells #[.slice none 0 0, .slice none 0 0] 25)
 have hlt := blk_lt hg3
 generalize w5.alloc (.cells #[.slice none 0 0, .slice none 0 0] 25) = w6 at hb6 hg6 ⊢
 have hB6 := below_step hB5 hb6
 have hg36 := blk_below hg3 hb6
 have hgh := blk_below hg5 hb6
 clear y5 y7
 have y5 : w6.cell? ⟨h, 5, none⟩ = some (.slice none 0 0) := (blk_cell hgh 5).trans rfl
 clear hb6 hg5 hB5
 generalize w5.heap.size = g6 at hg6 hlt ⊢
 clear hg3
 have q0 : w6.cell? ⟨g6, 0, none⟩ = some (.slice none 0 0) := (blk_cell hg6 0).trans rfl
 have q1 : w6.cell? ⟨g6, 1, none⟩ = some (.slice none 0 0) := (blk_cell hg6 1).trans rfl
 have r0 : w6.cell? ⟨g1, 0, none⟩ = some (.slice none 0 0) := (blk_cell hg36 0).trans rfl
 have r1 : w6.cell? ⟨g1, 1, none⟩ = some (.slice none 0 0) := (blk_cell hg36 1).trans rfl
 have f0 := blk_frozen hg36 0
 have f1 := blk_frozen hg36 1
 go_wp2
 go_loopw [28] (fun v wr => v = .int .i64 0 ∧ w6 = wr) (fun _ _ => 0)
 case atStart => exact ⟨rfl, rfl⟩
 case round =>
  obtain ⟨rfl, rfl⟩ := hrel
  go_wp2
  refine bodyPost_ret (results_ct rfl _ _ g1 25 #[.slice none 0 0, .slice none 0 0] (0, 0) _ rfl (blk_put (cs := #[.slice none 0 0, .slice none 0 0]) (blk_put hg36 0 _ rfl) 1 _ rfl) Tryz.underlying25 rfl (by kernel_rfl)) rfl ?_
  exact ⟨rfl, below_set (below_set hB6 hle) hle⟩

theorem mul64_calls (w : World) :
  Calls Tryz.prog 236 #[.int .u64 1, .int .u64 0] w fun e w' => e = .returned (.tuple #[.int .u64 0, .int .u64 0]) ∧ w = w' := by
 go_enter Tryz.func236, Tryz.ntmps236
 go_wp2
 go_ret2
 exact ⟨rfl, rfl⟩
theorem mul_calls (w : World) :
  Calls Tryz.prog 220 #[.int .u64 1, .int .u64 0] w fun e w' => e = .returned (.tuple #[.int .u64 0, .int .u64 0]) ∧ w = w' := by
 go_enter Tryz.func220, Tryz.ntmps220
 go_wp2_with (go_at_call 236; refine (mul64_calls _).mono ?_; rintro e w2 ⟨rfl, rfl⟩)
 go_ret2
 exact ⟨rfl, rfl⟩
theorem repeat0_calls (w : World) (b : Nat) :
  Calls Tryz.prog 187 #[.slice (some ⟨b, 0, none⟩) 1 1, .int .i64 0] w fun e w' => (∃ g, e = .returned (.slice (some ⟨g, 0, none⟩) 0 0)) ∧ Below w.heap.size w w' := by
 have hmk := print_make (P := Tryz.prog) 83 3 .i64 8 Tryz.underlying83 (by kernel_rfl) (by decide) 0 (by omega)
 rw [show ((0 : Nat) : Int) = 0 from rfl] at hmk
 go_enter Tryz.func187, Tryz.ntmps187
 go_upto_region 7 with (go_at_call 220; refine (mul_calls _).mono ?_; rintro e w2 ⟨rfl, rfl⟩)
 have hb : Below w.heap.size w (w.alloc (.cells (madeCells #[.int .i64 0] 0) 3)) := below_alloc (Below.refl _ w) _
 generalize w.alloc (.cells (madeCells #[.int .i64 0] 0) 3) = w1 at hb ⊢
 obtain ⟨g, hg⟩ : ∃ g, g = w.heap.size := ⟨_, rfl⟩
 rw [← hg]
 have HG := Aside0.mk hg
 clear hg
 have hcp : Sem.run Tryz.prog (Builtin.copy_ #[83, 83] 3 #[.slice (some ⟨g, 0, none⟩) 0 0, .slice (some ⟨b, 0, none⟩) 1 1]) w1 = .ok (.int .i64 0) w1 := by kernel_rfl
 go_wp2
 go_loopw [8] (fun v wr => v = .int .i64 0 ∧ w1 = wr) (fun _ _ => 0)
 case atStart => exact ⟨rfl, rfl⟩
 case round =>
  obtain ⟨rfl, rfl⟩ := hrel
  go_wp2
  go_ret
  exact ⟨⟨g, rfl⟩, hb⟩
theorem ptable0_calls (w : World) :
  Calls Tryz.prog 130 #[.slice none 0 0] w fun e w' => (∃ m, e = .returned (.map m)) ∧ Below w.heap.size w w' := by
 have hmm := @run_makeMap Tryz.prog
 go_enter Tryz.func130, Tryz.ntmps130
 go_upto_region 2 with (fail)
 have hb2 : Below w.heap.size w (w.alloc (.map #[] 0)) := below_alloc (Below.refl _ w) _
 generalize w.alloc (.map #[] 0) = w2 at hb2 ⊢
 go_wp2
 go_loopw [13] (fun v wr => v = .int .i64 0 ∧ w2 = wr) (fun _ _ => 0)
 case atStart => exact ⟨rfl, rfl⟩
 case round =>
  obtain ⟨rfl, rfl⟩ := hrel
  go_wp2
  go_ret
  exact ⟨⟨_, rfl⟩, hb2⟩
theorem firsts0_calls (w : World) :
  Calls Tryz.prog 131 #[.slice none 0 0, .int .i64 0] w fun e w' => (∃ g, e = .returned (.slice (some ⟨g, 0, none⟩) 0 0)) ∧ Below w.heap.size w w' := by
 have hr := fun W b => repeat0_calls W b
 have hb : Below w.heap.size w (w.alloc (.cells #[.int .i64 (-1)] 3)) := below_alloc (Below.refl _ w) _
 go_enter Tryz.func131, Tryz.ntmps131
 go_upto_region 2 with (go_at_call 187; refine (hr _ _).mono ?_; rintro e w2 ⟨⟨g, rfl⟩, hb2⟩)
 have hB2 := below_step hb hb2
 clear hr hb hb2
 go_wp2
 go_loopw [15] (fun v wr => v = .int .i64 0 ∧ w2 = wr) (fun _ _ => 0)
 case atStart => exact ⟨rfl, rfl⟩
 case round =>
  obtain ⟨rfl, rfl⟩ := hrel
  go_wp2
  go_ret
  exact ⟨⟨_, rfl⟩, hB2⟩
theorem fores0_calls (w : World) :
  Calls Tryz.prog 74 #[.slice none 0 0, .int .i64 0] w fun e w' => e = .returned (.tuple #[.slice none 0 0, .bool true]) ∧ Below w.heap.size w w' := by
 have ht := fun W => ptable0_calls W
 have hf := fun W => firsts0_calls W
 go_enter Tryz.func74, Tryz.ntmps74
 go_wp2
 go_loopw [15] (fun v wr => v = .int .i64 0 ∧ w = wr) (fun _ _ => 0)
 case atStart => exact ⟨rfl, rfl⟩
 case round =>
  obtain ⟨rfl, rfl⟩ := hrel
  go_wp2_with (first | (go_at_call 130; refine (ht _).mono ?_; rintro e w2 ⟨⟨m, rfl⟩, hb2⟩) | (go_at_call 131; refine (hf _).mono ?_; rintro e w3 ⟨⟨g, rfl⟩, hb3⟩; have hB3 := below_step hb2 hb3))
  go_loopw [9, 45] (fun v9 v wr => v9 = .slice none 0 0 ∧ v = .int .i64 0 ∧ w3 = wr) (fun _ _ _ => 0)
  case atStart => exact ⟨rfl, rfl, rfl⟩
  case round =>
   obtain ⟨rfl, rfl, rfl⟩ := hrel
   go_wp2
   go_ret2
   exact ⟨rfl, hB3⟩
theorem index0_calls (w : World) (f : Value) :
  Calls Tryz.prog 133 #[.slice none 0 0, f] w fun e w' => e = .returned (.int .i64 (-1)) ∧ w = w' := by
 go_enter Tryz.func133, Tryz.ntmps133
 go_wp2
 go_loopw [8] (fun v wr => v = .int .i64 0 ∧ w = wr) (fun _ _ => 0)
 case atStart => exact ⟨rfl, rfl⟩
 case round =>
  obtain ⟨rfl, rfl⟩ := hrel
  go_wp2
  go_ret
  exact ⟨rfl, rfl⟩
theorem contains0_calls (w : World) (f : Value) :
  Calls Tryz.prog 75 #[.slice none 0 0, f] w fun e w' => e = .returned (.bool false) ∧ w = w' := by
 go_enter Tryz.func75, Tryz.ntmps75
 go_wp2_with (go_at_call 133; refine (index0_calls _ _).mono ?_; rintro e w2 ⟨rfl, rfl⟩)
 go_ret
 exact ⟨rfl, rfl⟩
theorem rests0_calls (w : World) :
  Calls Tryz.prog 37 #[.agg #[.slice none 0 0, .slice none 0 0]] w fun e w' => e = .returned (.tuple #[.slice none 0 0, .int .i64 0]) ∧ Below w.heap.size w w' := by
 have hu := Tryz.underlying25
 have hf := fun W => fores0_calls W
 go_enter Tryz.func37, Tryz.ntmps37
 go_upto_region 1 with (fail)
 have hb : Below w.heap.size w (w.alloc (.cells #[.slice none 0 0, .slice none 0 0] 25)) := below_alloc (Below.refl _ w) _
 have hg := heap_alloc_new w (.cells #[.slice none 0 0, .slice none 0 0] 25)
 generalize w.alloc (.cells #[.slice none 0 0, .slice none 0 0] 25) = w1 at hb hg ⊢
 have y0 : w1.cell? ⟨w.heap.size, 0, none⟩ = some (.slice none 0 0) := (blk_cell hg 0).trans rfl
 have y1 : w1.cell? ⟨w.heap.size, 1, none⟩ = some (.slice none 0 0) := (blk_cell hg 1).trans rfl
 go_upto_region 2 with (go_at_call 74; refine (hf _).mono ?_; rintro e w2 ⟨rfl, hb2⟩)
 have hB2 := below_step hb hb2
 have hg2 := blk_below hg hb2
 clear y0 y1 hb2 hg hb hf
 have y0 : w2.cell? ⟨w.heap.size, 0, none⟩ = some (.slice none 0 0) := (blk_cell hg2 0).trans rfl
 have y1 : w2.cell? ⟨w.heap.size, 1, none⟩ = some (.slice none 0 0) := (blk_cell hg2 1).trans rfl
 go_wp2_with (go_at_call 75; refine (contains0_calls _ _).mono ?_; rintro e w3 ⟨rfl, rfl⟩)
 go_loopw [6, 29] (fun v6 v wr => v6 = .slice none 0 0 ∧ v = .int .i64 0 ∧ w2 = wr) (fun _ _ _ => 0)
 case atStart => exact ⟨rfl, rfl, rfl⟩
 case round =>
  obtain ⟨rfl, rfl, rfl⟩ := hrel
  go_wp2
  go_ret2
  exact ⟨rfl, hB2⟩
theorem bytes0_calls (w : World) :
  Calls Tryz.prog 38 #[.slice none 0 0] w fun e w' => e = .returned (.slice none 0 0) ∧ w = w' := by
 go_enter Tryz.func38, Tryz.ntmps38
 go_wp2
 go_loopw [3, 8] (fun v3 v wr => v3 = .slice none 0 0 ∧ v = .int .i64 0 ∧ w = wr) (fun _ _ _ => 0)
 case atStart => exact ⟨rfl, rfl, rfl⟩
 case round =>
  obtain ⟨rfl, rfl, rfl⟩ := hrel
  go_wp2
  go_ret
  exact ⟨rfl, rfl⟩
end Go.Proofs.YtbdbobjdlomjnaaGreatDoor.Ec

namespace Go.Proofs.YtbdbobjdlomjnaaGreatDoor.Ec
set_option linter.unusedVariables false
set_option linter.unusedSimpArgs false
open Go Go.RowKit Go.Proofs.YtbdbobjdlomjnaaGreatDoor.P Go.Proofs.YtbdbobjdlomjnaaGreatDoor.X Go.Proofs.YtbdbobjdlomjnaaGreatDoor.Fv Go.Proofs.YtbdbobjdlomjnaaGreatDoorW.PrintWords Go.Proofs.YtbdbobjdlomjnaaGreatDoorW.PrintLast Go.Proofs.YtbdbobjdlomjnaaGreatDoorW.PrintMore
set_option maxHeartbeats 8000000
set_option maxRecDepth 100000
theorem numV_nil : numV [] 0 = none := by unfold numV; rw [if_neg (by decide)]
theorem splitV_nil : splitV [] = ([], 11) := by rw [splitV_by, numV_nil]
theorem manyV_nil : manyV [] = ([0], 0) := rfl
theorem mesh0_calls (w : World) :
  Calls Tryz.prog 12 #[.agg #[.slice none 0 0, .slice none 0 0]] w fun e w' => ∃ vo, e = .returned (.tuple #[vo, .int .i64 0]) ∧ Kd.R (Kd.int .u8) 5 w' w.heap.size (fun _ => True) vo [0] ∧ Below w.heap.size w w' := by
 have hu := Tryz.underlying25
 have hst := fun W => steps0_calls W
 have hca := fun W => canon0_calls W
 have hre := fun W => rests0_calls W
 have hby := fun W => bytes0_calls W
 obtain ⟨K, hK⟩ := put1_ev 0 (by decide)
 have hput := fun W A0 c0 h1 h2 => vint_Put.calls K A0 c0 [((0 : Nat) : Int)] (putN 0) W h1 h2 (hK K (Nat.le_refl _))
 clear hK
 have hp0 : putN 0 = [0] := rfl
 rw [hp0] at hput
 clear hp0
 go_enter Tryz.func12, Tryz.ntmps12
 go_upto_region 1 with (fail)
 have hb : Below w.heap.size w (w.alloc (.cells #[.slice none 0 0, .slice none 0 0] 25)) := below_alloc (Below.refl _ w) _
 have hg := heap_alloc_new w (.cells #[.slice none 0 0, .slice none 0 0] 25)
 generalize w.alloc (.cells #[.slice none 0 0, .slice none 0 0] 25) = w1 at hb hg ⊢
 have y0 : w1.cell? ⟨w.heap.size, 0, none⟩ = some (.slice none 0 0) := (blk_cell hg 0).trans rfl
 have y1 : w1.cell? ⟨w.heap.size, 1, none⟩ = some (.slice none 0 0) := (blk_cell hg 1).trans rfl
 go_upto_region 4 with (go_at_call 34; refine (hst _).mono ?_; rintro e w2 ⟨rfl, hb2⟩)
 have hB2 := below_step hb hb2
 have hg2 := blk_below hg hb2
 clear y0 y1 hb2 hg hb hst
 have y0 : w2.cell? ⟨w.heap.size, 0, none⟩ = some (.slice none 0 0) := (blk_cell hg2 0).trans rfl
 have y1 : w2.cell? ⟨w.heap.size, 1, none⟩ = some (.slice none 0 0) := (blk_cell hg2 1).trans rfl
 go_upto_region 5 with (go_at_call 35; refine (hca _).mono ?_; rintro e w3 ⟨rfl, hb3⟩)
 have hB3 := below_step hB2 hb3
 clear y0 y1 hca hg2 hb3 hB2
 have hb4 : Below w.heap.size w (w3.alloc (.cells #[.slice none 0 0, .slice none 0 0] 25)) := below_alloc hB3 _
 have hg4 := heap_alloc_new w3 (.cells #[.slice none 0 0, .slice none 0 0] 25)
 generalize w3.alloc (.cells #[.slice none 0 0, .slice none 0 0] 25) = w4 at hb4 hg4 ⊢
 generalize w3.heap.size = g4 at hg4 ⊢
 have hb5 : Below w4.heap.size w4 (w4.alloc (.cells #[.int .u64 (0 : Int)] 80)) := below_alloc (Below.refl _ w4) _
 have hg5 := heap_alloc_new w4 (.cells #[.int .u64 (0 : Int)] 80)
 have hput2 := hput _ _ 1 (C_lit .u64 _ _ [(0 : Int)] _ _ _ hg5 rfl (by simp)) (by simp)
 clear hput hg5
 go_upto_region 6 with (go_at_call 36; refine hput2.mono ?_; rintro e w6 ⟨vq, rfl, hRq, hb6⟩)
 have hB6 := below_step hb4 (below_step hb5 hb6)
 have hg6 := blk_below hg4 (below_step hb5 hb6)
 have hR6 := Kd.R_lower hRq (Nat.le_trans hb4.size hb5.size)
 clear hput2 hRq hb5 hb6 hg4 hb4 hB3
 have y0 : w6.cell? ⟨g4, 0, none⟩ = some (.slice none 0 0) := (blk_cell hg6 0).trans rfl
 have y1 : w6.cell? ⟨g4, 1, none⟩ = some (.slice none 0 0) := (blk_cell hg6 1).trans rfl
 go_wp2
 go_loopw [8, 32] (fun v8 v wr => v8 = vq ∧ v = .int .i64 0 ∧ w6 = wr) (fun _ _ _ => 0)
 case atStart => exact ⟨rfl, rfl, rfl⟩
 case round =>
  obtain ⟨rfl, rfl, rfl⟩ := hrel
  go_upto_region 16 with (go_at_call 37; refine (hre _).mono ?_; rintro e w7 ⟨rfl, hb7⟩)
  have hB7 := below_step hB6 hb7
  have hR7 := Kd.R_below hR6 hb7
  have hC7 := Kd.C_nil (Kd.int .u8) w7
  clear hre y0 y1 hg6 hB6 hR6 hb7
  go_wp2_with (first | (go_at_call 38; refine (hby _).mono ?_; rintro e w8 ⟨rfl, rfl⟩) | ((with_reducible refine gate_builtin (b := .append) (xs := #[.tmp 61, .tmp 63]) rfl ?_); at_builtin; refine Kd.R_append_rows (Kd.int .u8) (w0 := w) w.heap.size rfl (.tmp 61) (.tmp 63) 26 5 (.int .u8 0) 1 rfl Tryz.underlying26 infoU rfl (by decide) (by omega) _ [0] [] _ _ _ (fun _ => True) (fun _ => False) rfl rfl ?aO ?aR (fun _ _ h => h) (fun _ h => h.elim) ?aF ?aB ?aS ?aL ?_; (case aO => exact hR7); (case aR => exact hC7); (case aF => exact fun _ _ => trivial); (case aB => exact hB7); (case aS => exact hB7.size); (case aL => decide); intro v4 w4 hR4 hb4 hg4 hat4))
  go_ret2
  exact ⟨_, rfl, hR4, hb4⟩
theorem readmesh0_calls (w : World) :
  Calls Tryz.prog 14 #[.slice none 0 0] w fun e w' => e = .returned (.tuple #[.agg #[.slice none 0 0, .slice none 0 0], .int .i64 11]) ∧ Below w.heap.size w w' := by
 have hu := Tryz.underlying25
 have hu2 := Tryz.underlying100
 have hu3 := Tryz.underlying98
 have hb : Below w.heap.size w (w.alloc (.cells #[.slice none 0 0, .slice none 0 0] 25)) := below_alloc (Below.refl _ w) _
 have hg := heap_alloc_new w (.cells #[.slice none 0 0, .slice none 0 0] 25)
 have hb1 : Below w.heap.size w ((w.alloc (.cells #[.slice none 0 0, .slice none 0 0] 25)).alloc (.cells (pc false none 0 0 0) 100)) := below_alloc hb _
 have hg1 := heap_alloc_new (w.alloc (.cells #[.slice none 0 0, .slice none 0 0] 25)) (.cells (pc false none 0 0 0) 100)
 rw [show (w.alloc (.cells #[.slice none 0 0, .slice none 0 0] 25)).heap.size = w.heap.size + 1 by simp] at hg1
 have hgm := blk_alloc hg (.cells (pc false none 0 0 0) 100)
 have hn1 := num_calls w _ (w.heap.size + 1) none 0 0 [] (fun _ h => absurd h List.not_mem_nil) (by simp) (by simp) (by simp) (Kd.C_nil (Kd.int .u8) _) hg1 (Nat.le_succ _) hb1
 rw [numV_nil] at hn1
 simp only at hn1
 go_enter Tryz.func14, Tryz.ntmps14
 go_upto_region 3 with (go_at_call 43; refine hn1.mono ?_; rintro e w2 ⟨⟨rfl, hg2⟩, hp2⟩)
 have hB2 := hp2.b
 have hg3 := blk_kept hgm hp2.k (show ¬ (w.heap.size = w.heap.size + 1) by omega)
 have y0 : w2.cell? ⟨w.heap.size + 1, 0, none⟩ = some (.bool true) := (blk_cell hg2 0).trans rfl
 clear hn1 hp2 hgm hg1 hb1 hg hb
 have q0 : w2.cell? ⟨w.heap.size, 0, none⟩ = some (.slice none 0 0) := (blk_cell hg3 0).trans rfl
 have q1 : w2.cell? ⟨w.heap.size, 1, none⟩ = some (.slice none 0 0) := (blk_cell hg3 1).trans rfl
 have f0 := blk_frozen hg3 0
 have f1 := blk_frozen hg3 1
 have hle : w.heap.size ≤ w.heap.size := Nat.le_refl _
 go_wp2
 go_loopw [7] (fun v wr => v = .int .i64 0 ∧ w2 = wr) (fun _ _ => 0)
 case atStart => exact ⟨rfl, rfl⟩
 case round =>
  obtain ⟨rfl, rfl⟩ := hrel
  go_wp2
  refine bodyPost_ret (results_ct rfl _ _ w.heap.size 25 #[.slice none 0 0, .slice none 0 0] (0, 0) _ rfl (blk_put (cs := #[.slice none 0 0, .slice none 0 0]) (blk_put hg3 0 _ rfl) 1 _ rfl) Tryz.underlying25 rfl (by kernel_rfl)) rfl ?_
  exact ⟨rfl, below_set (below_set hB2 hle) hle⟩

theorem known18_calls (w : World) :
  Calls Tryz.prog 11 #[] w fun e w' => e = .returned (.bool true) ∧ Below w.heap.size w w' := by
 have hu := Tryz.underlying25
 have hma := fun W => many_calls W none 0 [] (fun _ h => absurd h List.not_mem_nil) (by simp) (Kd.C_nil _ _)
 have hme := fun W => mesh0_calls W
 have hrm := fun W => readmesh0_calls W
 have hsp := fun W => split_calls W none 0 [] (fun _ h => absurd h List.not_mem_nil) (by simp) (by simp) (Kd.C_nil _ _)
 simp only [manyV_nil, splitV_nil] at hma hsp
 have hsm := fun A c B d W h1 h2 h3 h4 => rf00_Same.calls A c [0] B d [0] true W h1 h2 h3 h4 (C.same_self [0])
 go_enter Tryz.func11, Tryz.ntmps11
 go_upto_region 2 with (go_at_call 18; refine (hma _).mono ?_; rintro e w1 ⟨va, rfl, hRa, hb1⟩)
 go_upto_region 3 with (go_at_call 12; refine (hme _).mono ?_; rintro e w2 ⟨vb, rfl, hRb, hb2⟩)
 have hB2 := below_step hb1 hb2
 have hRa2 := Kd.R_below hRa hb2
 have hRb2 := Kd.R_lower hRb hb1.size
 clear hRa hRb hb1 hb2 hma hme
 go_upto_region 4 with (go_at_call 14; refine (hrm _).mono ?_; rintro e w3 ⟨rfl, hb3⟩)
 have hb4 : Below w3.heap.size w3 (w3.alloc (.cells #[.slice none 0 0, .slice none 0 0] 25)) := below_alloc (Below.refl _ w3) _
 generalize w3.alloc (.cells #[.slice none 0 0, .slice none 0 0] 25) = w4 at hb4 ⊢
 have hB4 := below_step hB2 (below_step hb3 hb4)
 have hRa4 := Kd.R_below hRa2 (below_step hb3 hb4)
 have hRb4 := Kd.R_below hRb2 (below_step hb3 hb4)
 clear hrm hb3 hb4 hRa2 hRb2 hB2
 generalize w3.heap.size = g4
 go_upto_region 5 with (go_at_call 22; refine (hsp _).mono ?_; rintro e w5 ⟨vs, rfl, hS, hb5⟩)
 have hB5 := below_step hB4 hb5
 have hRa5 := Kd.R_below hRa4 hb5
 have hRb5 := Kd.R_below hRb4 hb5
 obtain ⟨Aa, ca, rfl⟩ := Kd.R_slice hRa5
 obtain ⟨Ab, cb, rfl⟩ := Kd.R_slice hRb5
 have hCa := (Kd.R_reads' hRa5).2
 have hCb := (Kd.R_reads' hRb5).2
 clear hsp hb5 hRa4 hRb4 hB4 hS hRa5 hRb5
 have hb6 : Below w5.heap.size w5 (w5.alloc (.cells #[.int .u8 (0 : Int)] 5)) := below_alloc (Below.refl _ w5) _
 have hlit := fun W : World => C_lit .u8 _ W.heap.size [(0 : Int)] _ _ _ (heap_alloc_new W (.cells #[.int .u8 (0 : Int)] 5)) rfl (by simp)
 have hs1 : Calls Tryz.prog 16 #[.slice Aa 1 ca, .slice (some ⟨w5.heap.size, 0, none⟩) 1 1] (w5.alloc (.cells #[.int .u8 (0 : Int)] 5)) (fun e w' => e = .returned (.bool true) ∧ Drawn0 (w5.alloc (.cells #[.int .u8 (0 : Int)] 5)) w') := hsm Aa ca _ 1 _ (Kd.C_below hCa.2 hb6) hCa.1 (hlit w5) (Nat.le_refl _)
 have hs2 : ∀ W : World, Below w5.heap.size w5 W → Calls Tryz.prog 16 #[.slice Ab 1 cb, .slice (some ⟨W.heap.size, 0, none⟩) 1 1] (W.alloc (.cells #[.int .u8 (0 : Int)] 5)) (fun e w' => e = .returned (.bool true) ∧ Drawn0 (W.alloc (.cells #[.int .u8 (0 : Int)] 5)) w') := fun W hW => hsm Ab cb _ 1 _ (Kd.C_below (Kd.C_below hCb.2 hW) (below_alloc (Below.refl _ W) _)) hCb.1 (hlit W) (Nat.le_refl _)
 clear hsm hlit hCa hCb
 go_wp2_with (first | (go_at_call 16; refine (hs2 _ hb7).mono ?_; rintro e w8 ⟨rfl, hd8⟩; have hb8 := below_step hb7 (below_step (below_alloc (Below.refl _ w7) _) hd8.below)) | (go_at_call 16; refine hs1.mono ?_; rintro e w7 ⟨rfl, hd7⟩; have hb7 := below_step hb6 hd7.below))
 go_ret
 exact ⟨rfl, below_step hB5 hb8⟩
end Go.Proofs.YtbdbobjdlomjnaaGreatDoor.Ec

namespace Go.Proofs.YtbdbobjdlomjnaaGreatDoor.P
open Go.RowKit Go.Proofs.YtbdbobjdlomjnaaGreatDoorW.PrintWords Go.Proofs.YtbdbobjdlomjnaaGreatDoorW.PrintLast Go.Proofs.YtbdbobjdlomjnaaGreatDoorW.PrintMore Go.Proofs.YtbdbobjdlomjnaaGreatDoor.X
attribute [local go_sem] max2_int min2_int max_two min_two max_three min_three max_four min_four add64_0 add64_1 add64
set_option linter.unusedVariables false
set_option linter.unusedSimpArgs false
def lw_known.f  : Option (Bool) := some true
set_option maxHeartbeats 8000000 in
set_option maxRecDepth 100000 in
theorem lw_known.calls  (r : Bool) (w : World) (h : lw_known.f  = some r) :
  Calls Tryz.prog 11 #[] w fun e w' => e = .returned (.bool r) ∧ Below w.heap.size w w' := by
 unfold lw_known.f at h
 obtain rfl := Option.some.inj h
 exact Ec.known18_calls w
end Go.Proofs.YtbdbobjdlomjnaaGreatDoor.P
