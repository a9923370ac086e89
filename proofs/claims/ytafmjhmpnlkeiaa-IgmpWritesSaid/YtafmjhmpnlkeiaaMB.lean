/- Seat 5's texts, merged by a program of this session: F33, GLaw1, F45, F46, F24, F26, F25, GContains. Parts of the proof of IgmpWrites: whatever two messages, the law returns true. -/
import Derived.Test.YtafmjhmpnlkeiaaMA

/- Printed by myprint.py, a program of this session, over the kit's print. -/
namespace Go.Proofs.Ytafmjhmpnlkeiaa.P
open Go.RowKit Go.Proofs.YtafmjhmpnlkeiaaW.PrintWords Go.Proofs.YtafmjhmpnlkeiaaW.PrintLast Go.Proofs.YtafmjhmpnlkeiaaW.PrintMore
attribute [local go_sem] max2_int min2_int max_two min_two max_three min_three max_four min_four   -- for this text's walks alone
set_option linter.unusedVariables false
set_option linter.unusedSimpArgs false

/-! ### stolonref05_Recs: function 33 -/
def stolonref05_Recs.l0 : Nat → List (S44) → List (S44) → Int → Option (Bool)
  | 0, _, _, _ => none
  | k + 1, x0, x1, x5 => if x5 < (x0.length : Int) then (if 0 ≤ x5 then (if x5 < (x1.length : Int) then ((stolonref05_Rec.f k ((rd_T44 x0 x5).f0) ((rd_T44 x0 x5).f1) ((rd_T44 x0 x5).f2) ((rd_T44 x1 x5).f0) ((rd_T44 x1 x5).f1) ((rd_T44 x1 x5).f2)).bind fun t202 => (if t202 = true then (stolonref05_Recs.l0 k x0 x1 (wrap64 (x5 + 1))) else (some false))) else (none)) else (none)) else (some true)
def stolonref05_Recs.f (k : Nat) (l0 : List (S44)) (l1 : List (S44)) : Option (Bool) := if (l0.length : Int) = (l1.length : Int) then (stolonref05_Recs.l0 k l0 l1 0) else (some false)
theorem stolonref05_Recs.mono_l : ∀ k, (∀ y0 y1 y2, LeO (stolonref05_Recs.l0 k y0 y1 y2) (stolonref05_Recs.l0 (k + 1) y0 y1 y2))
  | 0 => fun _ _ _ r h => by simp [stolonref05_Recs.l0] at h
  | k + 1 => by
    have ih0 := stolonref05_Recs.mono_l k
    · intro y0 y1 y2
      unfold stolonref05_Recs.l0
      repeat' first
      | (with_reducible exact ih0 _ _ _)
      | (with_reducible exact stolonref05_Rec.mono _ _ _ _ _ _ _)
      | (with_reducible exact LeO.refl _)
      | (with_reducible exact LeO.none _)
      | (with_reducible refine LeO.ite ?_ ?_)
      | (with_reducible refine LeO.bind ?_ (fun _ => ?_))
      | exact ih0 _ _ _
      | exact stolonref05_Rec.mono _ _ _ _ _ _ _
      | exact LeO.none _
      | refine LeO.ite ?_ ?_
      | refine LeO.bind ?_ (fun _ => ?_)
theorem stolonref05_Recs.mono : ∀ a0 a1 k, LeO (stolonref05_Recs.f k a0 a1) (stolonref05_Recs.f (k + 1) a0 a1) := by
  intro a0 a1 k
  have ih0 := stolonref05_Recs.mono_l k
  unfold stolonref05_Recs.f
  repeat' first
      | (with_reducible exact ih0 _ _ _)
      | (with_reducible exact stolonref05_Rec.mono _ _ _ _ _ _ _)
      | (with_reducible exact LeO.refl _)
      | (with_reducible exact LeO.none _)
      | (with_reducible refine LeO.ite ?_ ?_)
      | (with_reducible refine LeO.bind ?_ (fun _ => ?_))
      | exact ih0 _ _ _
      | exact stolonref05_Rec.mono _ _ _ _ _ _ _
      | exact LeO.none _
      | refine LeO.ite ?_ ?_
      | refine LeO.bind ?_ (fun _ => ?_)
def stolonref05_Recs.T6 : Bool × List (List Nat × List Nat) := (true, [([], []), ([], []), ([0, 1], [0, 1]), ([2], [2]), ([], []), ([], []), ([4, 5], [4, 5]), ([6], [6]), ([3, 7], [3, 7]), ([8, 8, 0, 1, 2, 3, 4, 5, 6, 7, 8], [8])])
def stolonref05_Recs.B6 : List Nat := [0, 0, 3, 7, 0, 0, 48, 112, 255, 511]
theorem stolonref05_Recs.tab6 : rtab .any (opsOf Try.f33 6) = stolonref05_Recs.T6 := by kernel_rfl
theorem stolonref05_Recs.bits6 : waitsOk stolonref05_Recs.T6.2 stolonref05_Recs.B6 = true := by kernel_rfl
set_option maxHeartbeats 8000000 in
set_option maxRecDepth 100000 in
theorem stolonref05_Recs.calls (k : Nat) (A0 : Option Addr) (c0 : Nat) (l0 : List (S44)) (A1 : Option Addr) (c1 : Nat) (l1 : List (S44)) (r : Bool) (w : World) (hr0 : Kd.C k44 w A0 l0.length l0) (hc0 : l0.length ≤ c0) (hr1 : Kd.C k44 w A1 l1.length l1) (hc1 : l1.length ≤ c1) (h : stolonref05_Recs.f k l0 l1 = some r) :
    Calls Try.prog 33 #[.slice A0 l0.length c0, .slice A1 l1.length c1] w fun e w' => e = .returned (.bool r) ∧ Below w.heap.size w w' := by
  have hu44 := Try.underlying44
  have HR0 := Aside0.mk hr0
  have HC0 := Aside0.mk hc0
  clear hr0 hc0
  have HR1 := Aside0.mk hr1
  have HC1 := Aside0.mk hc1
  clear hr1 hc1
  have HB := Aside0.mk (Below.refl w.heap.size w)
  have H : (if (l0.length : Int) = (l1.length : Int) then (stolonref05_Recs.l0 k l0 l1 0) else (some false)) = some r := h
  clear h
  by_cases c3 : (l0.length : Int) = (l1.length : Int)
  · rw [if_pos c3] at H
    have c3b0 : ((l0.length : Int) == (l1.length : Int)) = true := beq_iff_eq.mpr c3
    have c3b1 : ((l0.length : Int) != (l1.length : Int)) = false := bne_eq_false_iff_eq.mpr c3
    have c3b2 : (l0.length == l1.length) = true := by first | simpa using c3 | (simp at c3 ⊢; omega)
    clear c3
    have H' := Aside0.mk H
    clear H
    go_enter Try.func33, Try.ntmps33
    go_wp2
    go_loopg [5] k (fun kq v5 w' => ∃ (x5_1 : Int), v5 = .int .i64 x5_1 ∧ Aside0 (stolonref05_Recs.l0 kq l0 l1 x5_1 = some r) ∧ Aside0 (kq ≤ k) ∧ Aside0 (Below w.heap.size w w'))
    case atStart => exact ⟨(0), (by first | rfl | (simp; done) | (simp [*]; done)), H', ⟨Nat.le_refl _⟩, ⟨by repeat (first | (with_reducible first | exact HB.out | apply below_alloc | apply pw_below_drewN | apply below_drew1) | exact HB.out)⟩⟩
    case round =>
      clear H'
      try clear c1
      try clear p2
      try clear c3
      try clear c3b0
      try clear c3b1
      try clear c3b2
      obtain ⟨x5_1, rfl, HA, HK1, HB⟩ := hrel
      cases gk with
      | zero => exact absurd HA.out (by simp [stolonref05_Recs.l0])
      | succ k1 =>
        have H := HA.out
        clear HA
        simp only [stolonref05_Recs.l0] at H
        by_cases c4 : x5_1 < (l0.length : Int)
        · rw [if_pos c4] at H
          have c4b0 : decide (x5_1 < (l0.length : Int)) = true := decide_eq_true c4
          clear c4
          by_cases c5 : 0 ≤ x5_1
          · rw [if_pos c5] at H
            have c5b0 : decide (0 ≤ x5_1) = true := decide_eq_true c5
            clear c5
            by_cases c6 : x5_1 < (l1.length : Int)
            · rw [if_pos c6] at H
              have c6b0 : decide (x5_1 < (l1.length : Int)) = true := decide_eq_true c6
              clear c6
              replace H := Option.bind_eq_some_iff.mp H
              obtain ⟨t202, A70, H⟩ := H
              replace H : (if t202 = true then (stolonref05_Recs.l0 k1 l0 l1 (wrap64 (x5_1 + 1))) else (some false)) = some r := H
              have A7 := Aside0.mk A70
              clear A70
              by_cases c8 : t202 = true
              · subst c8
                have H1 : (stolonref05_Recs.l0 k1 l0 l1 (wrap64 (x5_1 + 1))) = some r := by rw [if_pos rfl] at H; exact H
                clear H
                have H := H1
                clear H1
                have H' := Aside0.mk H
                clear H
                try go_wp2
                have n0_ := Aside0.mk (below_drew1 HB.out)
                clear HB
                have HB := n0_
                clear n0_
                have p200 : 0 ≤ (x5_1 : Int) := of_decide_eq_true (by first | (with_reducible assumption) | assumption)
                have q200 : x5_1 < (l0.length : Int) := of_decide_eq_true (by first | (with_reducible assumption) | assumption)
                obtain ⟨ad200, A200_2, c200_2, e200, hx200_0, hx200_1, hx200_2, hl200_2, hi200_2⟩ := at_T44 HR0.out x5_1 p200 q200
                have hw200_2 := hx200_2
                have hw200_1 := hx200_1
                have hw200_0 := hx200_0
                cases e200
                replace hx200_0 := (HB.out.cell (World.block_lt_of_cell? w _ hx200_0)).trans hx200_0
                replace hx200_1 := (HB.out.cell (World.block_lt_of_cell? w _ hx200_1)).trans hx200_1
                replace hx200_2 := (HB.out.cell (World.block_lt_of_cell? w _ hx200_2)).trans hx200_2
                have HR200_2 := Aside0.mk hi200_2
                have HC200_2 := Aside0.mk hl200_2
                clear hi200_2 hl200_2
                replace p200 := eq_true p200
                replace q200 := eq_true q200
                have p201 : 0 ≤ (x5_1 : Int) := of_decide_eq_true (by first | (with_reducible assumption) | assumption)
                have q201 : x5_1 < (l1.length : Int) := of_decide_eq_true (by first | (with_reducible assumption) | assumption)
                obtain ⟨ad201, A201_2, c201_2, e201, hx201_0, hx201_1, hx201_2, hl201_2, hi201_2⟩ := at_T44 HR1.out x5_1 p201 q201
                have hw201_2 := hx201_2
                have hw201_1 := hx201_1
                have hw201_0 := hx201_0
                cases e201
                replace hx201_0 := (HB.out.cell (World.block_lt_of_cell? w _ hx201_0)).trans hx201_0
                replace hx201_1 := (HB.out.cell (World.block_lt_of_cell? w _ hx201_1)).trans hx201_1
                replace hx201_2 := (HB.out.cell (World.block_lt_of_cell? w _ hx201_2)).trans hx201_2
                have HR201_2 := Aside0.mk hi201_2
                have HC201_2 := Aside0.mk hl201_2
                clear hi201_2 hl201_2
                replace p201 := eq_true p201
                replace q201 := eq_true q201
                refine start_ (n := 10) (S := fun w' => w'.cell? (ad200.add ((x5_1).toNat * 3)) = some (.int .u8 ((rd_T44 l0 x5_1).f0)) ∧ w'.cell? ⟨(ad200.add ((x5_1).toNat * 3)).block, (ad200.add ((x5_1).toNat * 3)).off + 1, none⟩ = some (.int .u32 ((rd_T44 l0 x5_1).f1)) ∧ w'.cell? ⟨(ad200.add ((x5_1).toNat * 3)).block, (ad200.add ((x5_1).toNat * 3)).off + 2, none⟩ = some (.slice A200_2 ((rd_T44 l0 x5_1).f2).length c200_2) ∧ w'.cell? (ad201.add ((x5_1).toNat * 3)) = some (.int .u8 ((rd_T44 l1 x5_1).f0)) ∧ w'.cell? ⟨(ad201.add ((x5_1).toNat * 3)).block, (ad201.add ((x5_1).toNat * 3)).off + 1, none⟩ = some (.int .u32 ((rd_T44 l1 x5_1).f1)) ∧ w'.cell? ⟨(ad201.add ((x5_1).toNat * 3)).block, (ad201.add ((x5_1).toNat * 3)).off + 2, none⟩ = some (.slice A201_2 ((rd_T44 l1 x5_1).f2).length c201_2)) (ds := []) #[false, false, false, false, false, false, false, false, false, false] (by kernel_rfl) rfl rfl ⟨((HB.out.cell (World.block_lt_of_cell? w _ hw200_0)).trans hw200_0), ((HB.out.cell (World.block_lt_of_cell? w _ hw200_1)).trans hw200_1), ((HB.out.cell (World.block_lt_of_cell? w _ hw200_2)).trans hw200_2), ((HB.out.cell (World.block_lt_of_cell? w _ hw201_0)).trans hw201_0), ((HB.out.cell (World.block_lt_of_cell? w _ hw201_1)).trans hw201_1), ((HB.out.cell (World.block_lt_of_cell? w _ hw201_2)).trans hw201_2)⟩ (fun hHeld => ?_); refine with_tabW stolonref05_Recs.tab6 stolonref05_Recs.bits6 (fun HT_ HW_ => ?_)
                generalize wr.drew = w9 at HB HR200_2 HR201_2 hx200_0 hx200_1 hx200_2 hx201_0 hx201_1 hx201_2 hHeld ⊢
                refine pure_ (i := 0) (N := some 18) (v := ?_) (a' := ?_) #[true, false, false, false, false, false, false, false, false, false] rfl rfl (any_of HT_.out (by kernel_rfl)) (fun _ _ _ h => h) (Or.inl ⟨by rfl, ?_⟩) ?_ ?_
                rotate_left
                · intro w'
                  go_simp
                  with_reducible rfl
                rotate_left
                · simp only [Act.put, List.setIfInBounds_toArray, List.set_cons_zero, List.set_cons_succ, i64_w, i32_w]
                  rfl
                refine pure_ (i := 1) (N := some 19) (v := ?_) (a' := ?_) #[true, true, false, false, false, false, false, false, false, false] rfl rfl (any_of HT_.out (by kernel_rfl)) (fun _ _ _ h => h) (Or.inl ⟨by rfl, ?_⟩) ?_ ?_
                rotate_left
                · intro w'
                  go_simp
                  with_reducible rfl
                rotate_left
                · simp only [Act.put, List.setIfInBounds_toArray, List.set_cons_zero, List.set_cons_succ, i64_w, i32_w]
                  rfl
                refine pure_ (i := 2) (N := some 20) (v := ?_) (a' := ?_) #[true, true, true, false, false, false, false, false, false, false] rfl rfl (any_of HT_.out (by kernel_rfl)) (fun _ _ _ h => h) (Or.inl ⟨by rfl, ?_⟩) ?_ ?_
                rotate_left
                · intro w'
                  go_simp
                  with_reducible rfl
                rotate_left
                · simp only [Act.put, List.setIfInBounds_toArray, List.set_cons_zero, List.set_cons_succ, i64_w, i32_w]
                  rfl
                refine pure_ (i := 4) (N := some 22) (v := ?_) (a' := ?_) #[true, true, true, false, true, false, false, false, false, false] rfl rfl (any_of HT_.out (by kernel_rfl)) (fun _ _ _ h => h) (Or.inl ⟨by rfl, ?_⟩) ?_ ?_
                rotate_left
                · intro w'
                  go_simp
                  with_reducible rfl
                rotate_left
                · simp only [Act.put, List.setIfInBounds_toArray, List.set_cons_zero, List.set_cons_succ, i64_w, i32_w]
                  rfl
                refine pure_ (i := 5) (N := some 23) (v := ?_) (a' := ?_) #[true, true, true, false, true, true, false, false, false, false] rfl rfl (any_of HT_.out (by kernel_rfl)) (fun _ _ _ h => h) (Or.inl ⟨by rfl, ?_⟩) ?_ ?_
                rotate_left
                · intro w'
                  go_simp
                  with_reducible rfl
                rotate_left
                · simp only [Act.put, List.setIfInBounds_toArray, List.set_cons_zero, List.set_cons_succ, i64_w, i32_w]
                  rfl
                refine pure_ (i := 6) (N := some 24) (v := ?_) (a' := ?_) #[true, true, true, false, true, true, true, false, false, false] rfl rfl (any_of HT_.out (by kernel_rfl)) (fun _ _ _ h => h) (Or.inl ⟨by rfl, ?_⟩) ?_ ?_
                rotate_left
                · intro w'
                  go_simp
                  with_reducible rfl
                rotate_left
                · simp only [Act.put, List.setIfInBounds_toArray, List.set_cons_zero, List.set_cons_succ, i64_w, i32_w]
                  rfl
                refine take_ (i := 3) (N := some 21) (v := ?_) (a' := ?_) #[true, true, true, true, true, true, true, false, false, false] rfl rfl (take_ofW HT_.out HW_.out (by kernel_rfl)) (fun _ _ _ h => h) (Or.inl ⟨by rfl, ?_⟩) hHeld ?_ ?_
                rotate_left
                · rintro w' ⟨s0, s1, s2, s3, s4, s5⟩
                  go_simp
                  with_reducible rfl
                rotate_left
                · simp only [Act.put, List.setIfInBounds_toArray, List.set_cons_zero, List.set_cons_succ, i64_w, i32_w]
                  rfl
                refine take_ (i := 7) (N := some 25) (v := ?_) (a' := ?_) #[true, true, true, true, true, true, true, true, false, false] rfl rfl (take_ofW HT_.out HW_.out (by kernel_rfl)) (fun _ _ _ h => h) (Or.inl ⟨by rfl, ?_⟩) hHeld ?_ ?_
                rotate_left
                · rintro w' ⟨s0, s1, s2, s3, s4, s5⟩
                  go_simp
                  with_reducible rfl
                rotate_left
                · simp only [Act.put, List.setIfInBounds_toArray, List.set_cons_zero, List.set_cons_succ, i64_w, i32_w]
                  rfl
                refine one_ (i := 8) (N := some 26) #[true, true, true, true, true, true, true, true, true, false] rfl rfl (one_of HT_.out (by kernel_rfl)) (by decide) (fun K hK => ?_)
                refine goes_ Try.func48 (by kernel_rfl) rfl #[.agg #[.int .u8 ((rd_T44 l0 x5_1).f0), .int .u32 ((rd_T44 l0 x5_1).f1), .slice A200_2 ((rd_T44 l0 x5_1).f2).length c200_2], .agg #[.int .u8 ((rd_T44 l1 x5_1).f0), .int .u32 ((rd_T44 l1 x5_1).f1), .slice A201_2 ((rd_T44 l1 x5_1).f2).length c201_2]] (by rfl) rfl rfl (by (try simp only [List.map_toArray, List.map_cons, List.map_nil]); first | done | rfl | (simp only [List.length_drop, List.length_take]; rfl)) ?_
                with_reducible refine (stolonref05_Rec.calls k1 ((rd_T44 l0 x5_1).f0) ((rd_T44 l0 x5_1).f1) _ _ ((rd_T44 l0 x5_1).f2) ((rd_T44 l1 x5_1).f0) ((rd_T44 l1 x5_1).f1) _ _ ((rd_T44 l1 x5_1).f2) true _ ?side1 ?side2 ?side3 ?side4 A7.out).mono ?_
                (case side1 => repeat (first | exact (Kd.C_below HR200_2.out HB.out) | (with_reducible refine Kd.C_alloc ?_ _) | (with_reducible refine Kd.C_drewN ?_ _) | (with_reducible refine Kd.C_drew ?_)))
                (case side2 => exact HC200_2.out)
                (case side3 => repeat (first | exact (Kd.C_below HR201_2.out HB.out) | (with_reducible refine Kd.C_alloc ?_ _) | (with_reducible refine Kd.C_drewN ?_ _) | (with_reducible refine Kd.C_drew ?_)))
                (case side4 => exact HC201_2.out)
                rintro e w10 ⟨rfl, hb⟩
                refine ⟨_, rfl, ?_⟩
                have n0_ := Aside0.mk (below_step (by repeat (first | (with_reducible first | exact HB.out | apply below_alloc | apply pw_below_drewN | apply below_drew1) | exact HB.out)) hb)
                clear HB
                have HB := n0_
                clear n0_
                (try clear hb)
                (try clear hb2)
                (try clear hk)
                (try clear hi)
                refine hK.out _ _ ⟨((HB.out.cell (World.block_lt_of_cell? w _ hw200_0)).trans hw200_0), ((HB.out.cell (World.block_lt_of_cell? w _ hw200_1)).trans hw200_1), ((HB.out.cell (World.block_lt_of_cell? w _ hw200_2)).trans hw200_2), ((HB.out.cell (World.block_lt_of_cell? w _ hw201_0)).trans hw201_0), ((HB.out.cell (World.block_lt_of_cell? w _ hw201_1)).trans hw201_1), ((HB.out.cell (World.block_lt_of_cell? w _ hw201_2)).trans hw201_2)⟩ (fun hHeld => ?_)
                clear hK K
                refine norm_ (a' := ?_) ?_ ?_
                rotate_left
                · show Act.put _ (some 26) _ = _
                  simp only [Act.put, List.setIfInBounds_toArray, List.set_cons_zero, List.set_cons_succ, i64_w, i32_w]
                  rfl
                refine pure_ (i := 9) (N := some 6) (v := ?_) (a' := ?_) #[true, true, true, true, true, true, true, true, true, true] rfl rfl (any_of HT_.out (by kernel_rfl)) (fun _ _ _ h => h) (Or.inl ⟨by rfl, ?_⟩) ?_ ?_
                rotate_left
                · intro w'
                  go_simp
                  with_reducible rfl
                rotate_left
                · simp only [Act.put, List.setIfInBounds_toArray, List.set_cons_zero, List.set_cons_succ, i64_w, i32_w]
                  rfl
                refine done_ (done_of HT_.out (by kernel_rfl)) ?_
                try go_wp2
                go_roundg k1
                case measure => have := HK1.out; omega
                case rel => exact ⟨(wrap64 (x5_1 + 1)), (by first | rfl | (simp; done) | (simp [*]; done)), H', ⟨by have := HK1.out; omega⟩, ⟨by repeat (first | (with_reducible first | exact HB.out | apply below_alloc | apply pw_below_drewN | apply below_drew1) | exact HB.out)⟩⟩
              · replace c8 := Bool.eq_false_iff.mpr c8
                subst c8
                have H1 : (some false) = some r := by rw [if_neg (show ¬ (false = true) by decide)] at H; exact H
                clear H
                have H := H1
                clear H1
                obtain rfl := Option.some.inj H
                try go_wp2
                have n0_ := Aside0.mk (below_drew1 HB.out)
                clear HB
                have HB := n0_
                clear n0_
                have p200 : 0 ≤ (x5_1 : Int) := of_decide_eq_true (by first | (with_reducible assumption) | assumption)
                have q200 : x5_1 < (l0.length : Int) := of_decide_eq_true (by first | (with_reducible assumption) | assumption)
                obtain ⟨ad200, A200_2, c200_2, e200, hx200_0, hx200_1, hx200_2, hl200_2, hi200_2⟩ := at_T44 HR0.out x5_1 p200 q200
                have hw200_2 := hx200_2
                have hw200_1 := hx200_1
                have hw200_0 := hx200_0
                cases e200
                replace hx200_0 := (HB.out.cell (World.block_lt_of_cell? w _ hx200_0)).trans hx200_0
                replace hx200_1 := (HB.out.cell (World.block_lt_of_cell? w _ hx200_1)).trans hx200_1
                replace hx200_2 := (HB.out.cell (World.block_lt_of_cell? w _ hx200_2)).trans hx200_2
                have HR200_2 := Aside0.mk hi200_2
                have HC200_2 := Aside0.mk hl200_2
                clear hi200_2 hl200_2
                replace p200 := eq_true p200
                replace q200 := eq_true q200
                have p201 : 0 ≤ (x5_1 : Int) := of_decide_eq_true (by first | (with_reducible assumption) | assumption)
                have q201 : x5_1 < (l1.length : Int) := of_decide_eq_true (by first | (with_reducible assumption) | assumption)
                obtain ⟨ad201, A201_2, c201_2, e201, hx201_0, hx201_1, hx201_2, hl201_2, hi201_2⟩ := at_T44 HR1.out x5_1 p201 q201
                have hw201_2 := hx201_2
                have hw201_1 := hx201_1
                have hw201_0 := hx201_0
                cases e201
                replace hx201_0 := (HB.out.cell (World.block_lt_of_cell? w _ hx201_0)).trans hx201_0
                replace hx201_1 := (HB.out.cell (World.block_lt_of_cell? w _ hx201_1)).trans hx201_1
                replace hx201_2 := (HB.out.cell (World.block_lt_of_cell? w _ hx201_2)).trans hx201_2
                have HR201_2 := Aside0.mk hi201_2
                have HC201_2 := Aside0.mk hl201_2
                clear hi201_2 hl201_2
                replace p201 := eq_true p201
                replace q201 := eq_true q201
                refine start_ (n := 10) (S := fun w' => w'.cell? (ad200.add ((x5_1).toNat * 3)) = some (.int .u8 ((rd_T44 l0 x5_1).f0)) ∧ w'.cell? ⟨(ad200.add ((x5_1).toNat * 3)).block, (ad200.add ((x5_1).toNat * 3)).off + 1, none⟩ = some (.int .u32 ((rd_T44 l0 x5_1).f1)) ∧ w'.cell? ⟨(ad200.add ((x5_1).toNat * 3)).block, (ad200.add ((x5_1).toNat * 3)).off + 2, none⟩ = some (.slice A200_2 ((rd_T44 l0 x5_1).f2).length c200_2) ∧ w'.cell? (ad201.add ((x5_1).toNat * 3)) = some (.int .u8 ((rd_T44 l1 x5_1).f0)) ∧ w'.cell? ⟨(ad201.add ((x5_1).toNat * 3)).block, (ad201.add ((x5_1).toNat * 3)).off + 1, none⟩ = some (.int .u32 ((rd_T44 l1 x5_1).f1)) ∧ w'.cell? ⟨(ad201.add ((x5_1).toNat * 3)).block, (ad201.add ((x5_1).toNat * 3)).off + 2, none⟩ = some (.slice A201_2 ((rd_T44 l1 x5_1).f2).length c201_2)) (ds := []) #[false, false, false, false, false, false, false, false, false, false] (by kernel_rfl) rfl rfl ⟨((HB.out.cell (World.block_lt_of_cell? w _ hw200_0)).trans hw200_0), ((HB.out.cell (World.block_lt_of_cell? w _ hw200_1)).trans hw200_1), ((HB.out.cell (World.block_lt_of_cell? w _ hw200_2)).trans hw200_2), ((HB.out.cell (World.block_lt_of_cell? w _ hw201_0)).trans hw201_0), ((HB.out.cell (World.block_lt_of_cell? w _ hw201_1)).trans hw201_1), ((HB.out.cell (World.block_lt_of_cell? w _ hw201_2)).trans hw201_2)⟩ (fun hHeld => ?_); refine with_tabW stolonref05_Recs.tab6 stolonref05_Recs.bits6 (fun HT_ HW_ => ?_)
                generalize wr.drew = w11 at HB HR200_2 HR201_2 hx200_0 hx200_1 hx200_2 hx201_0 hx201_1 hx201_2 hHeld ⊢
                refine pure_ (i := 0) (N := some 18) (v := ?_) (a' := ?_) #[true, false, false, false, false, false, false, false, false, false] rfl rfl (any_of HT_.out (by kernel_rfl)) (fun _ _ _ h => h) (Or.inl ⟨by rfl, ?_⟩) ?_ ?_
                rotate_left
                · intro w'
                  go_simp
                  with_reducible rfl
                rotate_left
                · simp only [Act.put, List.setIfInBounds_toArray, List.set_cons_zero, List.set_cons_succ, i64_w, i32_w]
                  rfl
                refine pure_ (i := 1) (N := some 19) (v := ?_) (a' := ?_) #[true, true, false, false, false, false, false, false, false, false] rfl rfl (any_of HT_.out (by kernel_rfl)) (fun _ _ _ h => h) (Or.inl ⟨by rfl, ?_⟩) ?_ ?_
                rotate_left
                · intro w'
                  go_simp
                  with_reducible rfl
                rotate_left
                · simp only [Act.put, List.setIfInBounds_toArray, List.set_cons_zero, List.set_cons_succ, i64_w, i32_w]
                  rfl
                refine pure_ (i := 2) (N := some 20) (v := ?_) (a' := ?_) #[true, true, true, false, false, false, false, false, false, false] rfl rfl (any_of HT_.out (by kernel_rfl)) (fun _ _ _ h => h) (Or.inl ⟨by rfl, ?_⟩) ?_ ?_
                rotate_left
                · intro w'
                  go_simp
                  with_reducible rfl
                rotate_left
                · simp only [Act.put, List.setIfInBounds_toArray, List.set_cons_zero, List.set_cons_succ, i64_w, i32_w]
                  rfl
                refine pure_ (i := 4) (N := some 22) (v := ?_) (a' := ?_) #[true, true, true, false, true, false, false, false, false, false] rfl rfl (any_of HT_.out (by kernel_rfl)) (fun _ _ _ h => h) (Or.inl ⟨by rfl, ?_⟩) ?_ ?_
                rotate_left
                · intro w'
                  go_simp
                  with_reducible rfl
                rotate_left
                · simp only [Act.put, List.setIfInBounds_toArray, List.set_cons_zero, List.set_cons_succ, i64_w, i32_w]
                  rfl
                refine pure_ (i := 5) (N := some 23) (v := ?_) (a' := ?_) #[true, true, true, false, true, true, false, false, false, false] rfl rfl (any_of HT_.out (by kernel_rfl)) (fun _ _ _ h => h) (Or.inl ⟨by rfl, ?_⟩) ?_ ?_
                rotate_left
                · intro w'
                  go_simp
                  with_reducible rfl
                rotate_left
                · simp only [Act.put, List.setIfInBounds_toArray, List.set_cons_zero, List.set_cons_succ, i64_w, i32_w]
                  rfl
                refine pure_ (i := 6) (N := some 24) (v := ?_) (a' := ?_) #[true, true, true, false, true, true, true, false, false, false] rfl rfl (any_of HT_.out (by kernel_rfl)) (fun _ _ _ h => h) (Or.inl ⟨by rfl, ?_⟩) ?_ ?_
                rotate_left
                · intro w'
                  go_simp
                  with_reducible rfl
                rotate_left
                · simp only [Act.put, List.setIfInBounds_toArray, List.set_cons_zero, List.set_cons_succ, i64_w, i32_w]
                  rfl
                refine take_ (i := 3) (N := some 21) (v := ?_) (a' := ?_) #[true, true, true, true, true, true, true, false, false, false] rfl rfl (take_ofW HT_.out HW_.out (by kernel_rfl)) (fun _ _ _ h => h) (Or.inl ⟨by rfl, ?_⟩) hHeld ?_ ?_
                rotate_left
                · rintro w' ⟨s0, s1, s2, s3, s4, s5⟩
                  go_simp
                  with_reducible rfl
                rotate_left
                · simp only [Act.put, List.setIfInBounds_toArray, List.set_cons_zero, List.set_cons_succ, i64_w, i32_w]
                  rfl
                refine take_ (i := 7) (N := some 25) (v := ?_) (a' := ?_) #[true, true, true, true, true, true, true, true, false, false] rfl rfl (take_ofW HT_.out HW_.out (by kernel_rfl)) (fun _ _ _ h => h) (Or.inl ⟨by rfl, ?_⟩) hHeld ?_ ?_
                rotate_left
                · rintro w' ⟨s0, s1, s2, s3, s4, s5⟩
                  go_simp
                  with_reducible rfl
                rotate_left
                · simp only [Act.put, List.setIfInBounds_toArray, List.set_cons_zero, List.set_cons_succ, i64_w, i32_w]
                  rfl
                refine one_ (i := 8) (N := some 26) #[true, true, true, true, true, true, true, true, true, false] rfl rfl (one_of HT_.out (by kernel_rfl)) (by decide) (fun K hK => ?_)
                refine goes_ Try.func48 (by kernel_rfl) rfl #[.agg #[.int .u8 ((rd_T44 l0 x5_1).f0), .int .u32 ((rd_T44 l0 x5_1).f1), .slice A200_2 ((rd_T44 l0 x5_1).f2).length c200_2], .agg #[.int .u8 ((rd_T44 l1 x5_1).f0), .int .u32 ((rd_T44 l1 x5_1).f1), .slice A201_2 ((rd_T44 l1 x5_1).f2).length c201_2]] (by rfl) rfl rfl (by (try simp only [List.map_toArray, List.map_cons, List.map_nil]); first | done | rfl | (simp only [List.length_drop, List.length_take]; rfl)) ?_
                with_reducible refine (stolonref05_Rec.calls k1 ((rd_T44 l0 x5_1).f0) ((rd_T44 l0 x5_1).f1) _ _ ((rd_T44 l0 x5_1).f2) ((rd_T44 l1 x5_1).f0) ((rd_T44 l1 x5_1).f1) _ _ ((rd_T44 l1 x5_1).f2) false _ ?side1 ?side2 ?side3 ?side4 A7.out).mono ?_
                (case side1 => repeat (first | exact (Kd.C_below HR200_2.out HB.out) | (with_reducible refine Kd.C_alloc ?_ _) | (with_reducible refine Kd.C_drewN ?_ _) | (with_reducible refine Kd.C_drew ?_)))
                (case side2 => exact HC200_2.out)
                (case side3 => repeat (first | exact (Kd.C_below HR201_2.out HB.out) | (with_reducible refine Kd.C_alloc ?_ _) | (with_reducible refine Kd.C_drewN ?_ _) | (with_reducible refine Kd.C_drew ?_)))
                (case side4 => exact HC201_2.out)
                rintro e w12 ⟨rfl, hb⟩
                refine ⟨_, rfl, ?_⟩
                have n0_ := Aside0.mk (below_step (by repeat (first | (with_reducible first | exact HB.out | apply below_alloc | apply pw_below_drewN | apply below_drew1) | exact HB.out)) hb)
                clear HB
                have HB := n0_
                clear n0_
                (try clear hb)
                (try clear hb2)
                (try clear hk)
                (try clear hi)
                refine hK.out _ _ ⟨((HB.out.cell (World.block_lt_of_cell? w _ hw200_0)).trans hw200_0), ((HB.out.cell (World.block_lt_of_cell? w _ hw200_1)).trans hw200_1), ((HB.out.cell (World.block_lt_of_cell? w _ hw200_2)).trans hw200_2), ((HB.out.cell (World.block_lt_of_cell? w _ hw201_0)).trans hw201_0), ((HB.out.cell (World.block_lt_of_cell? w _ hw201_1)).trans hw201_1), ((HB.out.cell (World.block_lt_of_cell? w _ hw201_2)).trans hw201_2)⟩ (fun hHeld => ?_)
                clear hK K
                refine norm_ (a' := ?_) ?_ ?_
                rotate_left
                · show Act.put _ (some 26) _ = _
                  simp only [Act.put, List.setIfInBounds_toArray, List.set_cons_zero, List.set_cons_succ, i64_w, i32_w]
                  rfl
                refine pure_ (i := 9) (N := some 6) (v := ?_) (a' := ?_) #[true, true, true, true, true, true, true, true, true, true] rfl rfl (any_of HT_.out (by kernel_rfl)) (fun _ _ _ h => h) (Or.inl ⟨by rfl, ?_⟩) ?_ ?_
                rotate_left
                · intro w'
                  go_simp
                  with_reducible rfl
                rotate_left
                · simp only [Act.put, List.setIfInBounds_toArray, List.set_cons_zero, List.set_cons_succ, i64_w, i32_w]
                  rfl
                refine done_ (done_of HT_.out (by kernel_rfl)) ?_
                try go_wp2
                go_ret
                exact ⟨by first | rfl | (simp [errW_none, errW_some] <;> rfl) | (simp [*, errW_none, errW_some] <;> rfl), by repeat (first | (with_reducible first | exact HB.out | apply below_alloc | apply pw_below_drewN | apply below_drew1) | exact HB.out)⟩
            · rw [if_neg c6] at H
              exact absurd H (by simp)
          · rw [if_neg c5] at H
            exact absurd H (by simp)
        · rw [if_neg c4] at H
          have c4b0 : decide (x5_1 < (l0.length : Int)) = false := decide_eq_false c4
          clear c4
          obtain rfl := Option.some.inj H
          go_wp2
          go_ret
          exact ⟨by first | rfl | (simp [errW_none, errW_some] <;> rfl) | (simp [*, errW_none, errW_some] <;> rfl), by repeat (first | (with_reducible first | exact HB.out | apply below_alloc | apply pw_below_drewN | apply below_drew1) | exact HB.out)⟩
  · rw [if_neg c3] at H
    have c3b0 : ((l0.length : Int) == (l1.length : Int)) = false := beq_eq_false_iff_ne.mpr c3
    have c3b1 : ((l0.length : Int) != (l1.length : Int)) = true := bne_iff_ne.mpr c3
    have c3b2 : (l0.length == l1.length) = false := by first | simpa using c3 | (simp at c3 ⊢; omega)
    obtain rfl := Option.some.inj H
    go_enter Try.func33, Try.ntmps33
    go_wp2
    go_ret
    exact ⟨by first | rfl | (simp [errW_none, errW_some] <;> rfl) | (simp [*, errW_none, errW_some] <;> rfl), by repeat (first | (with_reducible first | exact HB.out | apply below_alloc | apply pw_below_drewN | apply below_drew1) | exact HB.out)⟩

end Go.Proofs.Ytafmjhmpnlkeiaa.P

/- The plain law, first part: what settles as the rounds grow; rows that are compared. -/
namespace Go.Proofs.Ytafmjhmpnlkeiaa.P
open Go.RowKit Go.Proofs.YtafmjhmpnlkeiaaW.PrintWords Go.Proofs.YtafmjhmpnlkeiaaW.PrintLast Go.Proofs.YtafmjhmpnlkeiaaW.PrintMore
set_option linter.unusedVariables false
set_option linter.unusedSimpArgs false

/-- From some number of rounds on, f's answer is v. -/
def Ev {α : Type} (f : Nat → Option α) (v : α) : Prop := ∃ k0, ∀ k, k0 ≤ k → f k = some v
theorem Ev.const {α : Type} {a : Option α} {v : α} (h : a = some v) : Ev (fun _ => a) v := ⟨0, fun _ _ => h⟩
theorem Ev.succ {α : Type} {f g : Nat → Option α} {v : α} (hf : ∀ k, f (k + 1) = g k) (h : Ev g v) : Ev f v := by
  obtain ⟨k0, h⟩ := h
  refine ⟨k0 + 1, fun k hk => ?_⟩
  obtain ⟨k, rfl⟩ : ∃ m, k = m + 1 := ⟨k - 1, by omega⟩
  rw [hf, h k (by omega)]
theorem Ev.congr {α : Type} {f g : Nat → Option α} {v : α} (hf : ∀ k, f k = g k) (h : Ev g v) : Ev f v := by
  obtain ⟨k0, h⟩ := h
  exact ⟨k0, fun k hk => (hf k).trans (h k hk)⟩
theorem Ev.bind {α β : Type} {f : Nat → Option α} {g : Nat → α → Option β} {u : α} {v : β} (h1 : Ev f u) (h2 : Ev (fun k => g k u) v) : Ev (fun k => (f k).bind (g k)) v := by
  obtain ⟨k1, h1⟩ := h1
  obtain ⟨k2, h2⟩ := h2
  refine ⟨k1 + k2, fun k hk => ?_⟩
  show (f k).bind (g k) = some v
  rw [h1 k (by omega)]
  exact h2 k (by omega)
theorem Ev.val {α : Type} {f : Nat → Option α} {u v : α} (h : Ev f u) (e : u = v) : Ev f v := e ▸ h
theorem Ev.ite {α : Type} {c : Prop} [Decidable c] {f g : Nat → Option α} {v : α} (h1 : c → Ev f v) (h2 : ¬ c → Ev g v) : Ev (fun k => if c then f k else g k) v := by
  by_cases h : c
  · exact Ev.congr (fun k => if_pos h) (h1 h)
  · exact Ev.congr (fun k => if_neg h) (h2 h)
theorem rows32_l0 (a b : List Int) (hab : a.length = b.length) (hn : a.length ≤ 9223372036854775807) (d : Nat) : ∀ x : Nat, a.length - x = d → x ≤ a.length → Ev (fun k => stolonref01_Rows.l0 k a b (x : Int)) (decide (a.drop x = b.drop x)) := by
  induction d with
  | zero =>
    intro x hd hx
    refine Ev.succ (g := fun _ => some true) (fun k => by simp only [stolonref01_Rows.l0]; rw [if_neg (by omega)]) (Ev.const ?_)
    rw [List.drop_of_length_le (by omega), List.drop_of_length_le (by omega)]
    simp
  | succ d ih =>
    intro x hd hx
    have hxa : x < a.length := by omega
    have hxb : x < b.length := by omega
    by_cases he : a[x] = b[x]
    · refine Ev.succ (g := fun k => stolonref01_Rows.l0 k a b ((x + 1 : Nat) : Int)) (fun k => by simp only [stolonref01_Rows.l0]; rw [if_pos (by omega), if_pos (by omega), if_pos (by omega), rd_eq a x hxa, rd_eq b x hxb, if_pos he, wrap_succ x a.length hxa hn]) ((ih (x + 1) (by omega) (by omega)).val ?_)
      rw [decide_eq_decide, drop_eq_iff a b x hxa hxb]
      simp [he]
    · refine Ev.succ (g := fun _ => some false) (fun k => by simp only [stolonref01_Rows.l0]; rw [if_pos (by omega), if_pos (by omega), if_pos (by omega), rd_eq a x hxa, rd_eq b x hxb, if_neg he]) (Ev.const ?_)
      have : ¬ (a.drop x = b.drop x) := by
        rw [drop_eq_iff a b x hxa hxb]
        exact fun h => he h.1
      simp [this]
theorem rows32_f (a b : List Int) (hn : a.length ≤ 9223372036854775807) : Ev (fun k => stolonref01_Rows.f k a b) (decide (a = b)) := by
  by_cases hab : a.length = b.length
  · refine Ev.congr (g := fun k => stolonref01_Rows.l0 k a b 0) (fun k => by simp only [stolonref01_Rows.f]; rw [if_pos (by omega)]) (((rows32_l0 a b hab hn _ 0 rfl (by omega))).val (by simp))
  · refine Ev.congr (g := fun _ => some false) (fun k => by simp only [stolonref01_Rows.f]; rw [if_neg (by omega)]) (Ev.const ?_)
    have : ¬ a = b := fun h => hab (by rw [h])
    simp [this]
theorem same11_l0 (a b : List Int) (hab : a.length = b.length) (hn : a.length ≤ 9223372036854775807) (d : Nat) : ∀ x : Nat, a.length - x = d → x ≤ a.length → Ev (fun k => stolonref01_Same.l0 k a b (x : Int)) (decide (a.drop x = b.drop x)) := by
  induction d with
  | zero =>
    intro x hd hx
    refine Ev.succ (g := fun _ => some true) (fun k => by simp only [stolonref01_Same.l0]; rw [if_neg (by omega)]) (Ev.const ?_)
    rw [List.drop_of_length_le (by omega), List.drop_of_length_le (by omega)]
    simp
  | succ d ih =>
    intro x hd hx
    have hxa : x < a.length := by omega
    have hxb : x < b.length := by omega
    by_cases he : a[x] = b[x]
    · refine Ev.succ (g := fun k => stolonref01_Same.l0 k a b ((x + 1 : Nat) : Int)) (fun k => by simp only [stolonref01_Same.l0]; rw [if_pos (by omega), if_pos (by omega), if_pos (by omega), rd_eq a x hxa, rd_eq b x hxb, if_pos he, wrap_succ x a.length hxa hn]) ((ih (x + 1) (by omega) (by omega)).val ?_)
      rw [decide_eq_decide, drop_eq_iff a b x hxa hxb]
      simp [he]
    · refine Ev.succ (g := fun _ => some false) (fun k => by simp only [stolonref01_Same.l0]; rw [if_pos (by omega), if_pos (by omega), if_pos (by omega), rd_eq a x hxa, rd_eq b x hxb, if_neg he]) (Ev.const ?_)
      have : ¬ (a.drop x = b.drop x) := by
        rw [drop_eq_iff a b x hxa hxb]
        exact fun h => he h.1
      simp [this]
theorem same11_f (a b : List Int) (hn : a.length ≤ 9223372036854775807) : Ev (fun k => stolonref01_Same.f k a b) (decide (a = b)) := by
  by_cases hab : a.length = b.length
  · refine Ev.congr (g := fun k => stolonref01_Same.l0 k a b 0) (fun k => by simp only [stolonref01_Same.f]; rw [if_pos (by omega)]) (((same11_l0 a b hab hn _ 0 rfl (by omega))).val (by simp))
  · refine Ev.congr (g := fun _ => some false) (fun k => by simp only [stolonref01_Same.f]; rw [if_neg (by omega)]) (Ev.const ?_)
    have : ¬ a = b := fun h => hab (by rw [h])
    simp [this]
theorem addr29_l0 (a b : List Int) (hab : a.length = b.length) (hn : a.length ≤ 9223372036854775807) (d : Nat) : ∀ x : Nat, a.length - x = d → x ≤ a.length → Ev (fun k => api_Addr.l0 k a b (a.length : Int) (x : Int)) (decide (a.drop x = b.drop x)) := by
  induction d with
  | zero =>
    intro x hd hx
    refine Ev.succ (g := fun _ => some true) (fun k => by simp only [api_Addr.l0]; rw [if_neg (by omega)]) (Ev.const ?_)
    rw [List.drop_of_length_le (by omega), List.drop_of_length_le (by omega)]
    simp
  | succ d ih =>
    intro x hd hx
    have hxa : x < a.length := by omega
    have hxb : x < b.length := by omega
    by_cases he : a[x] = b[x]
    · refine Ev.succ (g := fun k => api_Addr.l0 k a b (a.length : Int) ((x + 1 : Nat) : Int)) (fun k => by simp only [api_Addr.l0]; rw [if_pos (by omega), if_pos (by omega), if_pos (by omega), if_pos (by omega), rd_eq a x hxa, rd_eq b x hxb, if_pos he, wrap_succ x a.length hxa hn]) ((ih (x + 1) (by omega) (by omega)).val ?_)
      rw [decide_eq_decide, drop_eq_iff a b x hxa hxb]
      simp [he]
    · refine Ev.succ (g := fun _ => some false) (fun k => by simp only [api_Addr.l0]; rw [if_pos (by omega), if_pos (by omega), if_pos (by omega), if_pos (by omega), rd_eq a x hxa, rd_eq b x hxb, if_neg he]) (Ev.const ?_)
      have : ¬ (a.drop x = b.drop x) := by
        rw [drop_eq_iff a b x hxa hxb]
        exact fun h => he h.1
      simp [this]
theorem addr29_f (a b : List Int) (hn : a.length ≤ 9223372036854775807) : Ev (fun k => api_Addr.f k a b) (decide (a = b)) := by
  by_cases hab : a.length = b.length
  · refine Ev.congr (g := fun k => api_Addr.l0 k a b (a.length : Int) 0) (fun k => by simp only [api_Addr.f]; rw [if_pos (by omega)]) (((addr29_l0 a b hab hn _ 0 rfl (by omega))).val (by simp))
  · refine Ev.congr (g := fun _ => some false) (fun k => by simp only [api_Addr.f]; rw [if_neg (by omega)]) (Ev.const ?_)
    have : ¬ a = b := fun h => hab (by rw [h])
    simp [this]
theorem rec48 (a b : S44) (hn : a.f2.length ≤ 9223372036854775807) : Ev (fun k => stolonref05_Rec.f k a.f0 a.f1 a.f2 b.f0 b.f1 b.f2) (recEq a b) := by
  unfold stolonref05_Rec.f recEq
  refine Ev.ite (fun h0 => Ev.ite (fun h1 => ?_) (fun h1 => ?_)) (fun h0 => ?_)
  · refine Ev.bind (rows32_f a.f2 b.f2 hn) (Ev.const ?_)
    simp [h0, h1]
  · exact Ev.const (by simp [h1])
  · exact Ev.const (by simp [h0])
theorem recs33_l0 (a b : List S44) (hab : a.length = b.length) (hn : a.length ≤ 9223372036854775807) (hr : ∀ r ∈ a, r.f2.length ≤ 9223372036854775807) (d : Nat) : ∀ x : Nat, a.length - x = d → x ≤ a.length → Ev (fun k => stolonref05_Recs.l0 k a b (x : Int)) (recsEq (a.drop x) (b.drop x)) := by
  induction d with
  | zero =>
    intro x hd hx
    refine Ev.succ (g := fun _ => some true) (fun k => by simp only [stolonref05_Recs.l0]; rw [if_neg (by omega)]) (Ev.const ?_)
    rw [List.drop_of_length_le (by omega), List.drop_of_length_le (by omega)]
    rfl
  | succ d ih =>
    intro x hd hx
    have hxa : x < a.length := by omega
    have hxb : x < b.length := by omega
    rw [recsEq_step a b x hxa hxb]
    refine Ev.succ (g := fun k => (stolonref05_Rec.f k a[x].f0 a[x].f1 a[x].f2 b[x].f0 b[x].f1 b[x].f2).bind fun t => if t = true then stolonref05_Recs.l0 k a b ((x + 1 : Nat) : Int) else some false) (fun k => by simp only [stolonref05_Recs.l0]; rw [if_pos (by omega), if_pos (by omega), if_pos (by omega), rdT44_eq a x hxa, rdT44_eq b x hxb, wrap_succ x a.length hxa hn]) ?_
    refine Ev.bind (rec48 a[x] b[x] (hr _ (List.getElem_mem hxa))) ?_
    cases h : recEq a[x] b[x] with
    | true => exact Ev.congr (fun k => if_pos rfl) ((ih (x + 1) (by omega) (by omega)).val (by simp))
    | false => exact Ev.const (by simp)
theorem recs33_f (a b : List S44) (hn : a.length ≤ 9223372036854775807) (hr : ∀ r ∈ a, r.f2.length ≤ 9223372036854775807) : Ev (fun k => stolonref05_Recs.f k a b) (recsEq a b) := by
  by_cases hab : a.length = b.length
  · refine Ev.congr (g := fun k => stolonref05_Recs.l0 k a b 0) (fun k => by simp only [stolonref05_Recs.f]; rw [if_pos (by omega)]) ((recs33_l0 a b hab hn hr _ 0 rfl (by omega)).val (by simp))
  · refine Ev.congr (g := fun _ => some false) (fun k => by simp only [stolonref05_Recs.f]; rw [if_neg (by omega)]) (Ev.const ?_)
    simp [recsEq, hab]
end Go.Proofs.Ytafmjhmpnlkeiaa.P

/- Printed by myprint.py, a program of this session, over the kit's print. -/
namespace Go.Proofs.Ytafmjhmpnlkeiaa.P
open Go.RowKit Go.Proofs.YtafmjhmpnlkeiaaW.PrintWords Go.Proofs.YtafmjhmpnlkeiaaW.PrintLast Go.Proofs.YtafmjhmpnlkeiaaW.PrintMore
attribute [local go_sem] max2_int min2_int max_two min_two max_three min_three max_four min_four   -- for this text's walks alone
set_option linter.unusedVariables false
set_option linter.unusedSimpArgs false

/-! ### addr_IsGroup: function 45 -/
def addr_IsGroup.f (a0 : Int) : Option (Bool) := some ((a0 / 268435456) == 14)
set_option maxHeartbeats 8000000 in
set_option maxRecDepth 100000 in
theorem addr_IsGroup.calls (a0 : Int) (r : Bool) (w : World) (h : addr_IsGroup.f a0 = some r) :
    Calls Try.prog 45 #[.int .u32 a0] w fun e w' => e = .returned (.bool r) ∧ Drawn0 w w' := by
  have H : (some ((a0 / 268435456) == 14)) = some r := h
  clear h
  obtain rfl := Option.some.inj H
  go_enter Try.func45, Try.ntmps45
  go_wp2
  go_ret
  exact ⟨by first | rfl | (simp; done) | (simp [*]; done), by repeat (first | exact Drawn0.refl _ | apply Drawn0.step)⟩

end Go.Proofs.Ytafmjhmpnlkeiaa.P

/- Printed by myprint.py, a program of this session, over the kit's print. -/
namespace Go.Proofs.Ytafmjhmpnlkeiaa.P
open Go.RowKit Go.Proofs.YtafmjhmpnlkeiaaW.PrintWords Go.Proofs.YtafmjhmpnlkeiaaW.PrintLast Go.Proofs.YtafmjhmpnlkeiaaW.PrintMore
attribute [local go_sem] max2_int min2_int max_two min_two max_three min_three max_four min_four   -- for this text's walks alone
set_option linter.unusedVariables false
set_option linter.unusedSimpArgs false

/-! ### addr_IsLocal: function 46 -/
def addr_IsLocal.f (a0 : Int) : Option (Bool) := some ((a0 / 256) == 14680064)
set_option maxHeartbeats 8000000 in
set_option maxRecDepth 100000 in
theorem addr_IsLocal.calls (a0 : Int) (r : Bool) (w : World) (h : addr_IsLocal.f a0 = some r) :
    Calls Try.prog 46 #[.int .u32 a0] w fun e w' => e = .returned (.bool r) ∧ Drawn0 w w' := by
  have H : (some ((a0 / 256) == 14680064)) = some r := h
  clear h
  obtain rfl := Option.some.inj H
  go_enter Try.func46, Try.ntmps46
  go_wp2
  go_ret
  exact ⟨by first | rfl | (simp; done) | (simp [*]; done), by repeat (first | exact Drawn0.refl _ | apply Drawn0.step)⟩

end Go.Proofs.Ytafmjhmpnlkeiaa.P

/- Printed by myprint.py, a program of this session, over the kit's print. -/
namespace Go.Proofs.Ytafmjhmpnlkeiaa.P
open Go.RowKit Go.Proofs.YtafmjhmpnlkeiaaW.PrintWords Go.Proofs.YtafmjhmpnlkeiaaW.PrintLast Go.Proofs.YtafmjhmpnlkeiaaW.PrintMore
attribute [local go_sem] max2_int min2_int max_two min_two max_three min_three max_four min_four   -- for this text's walks alone
set_option linter.unusedVariables false
set_option linter.unusedSimpArgs false

/-! ### addr_IsAsked: function 24 -/
def addr_IsAsked.f (a0 : Int) : Option (Bool) := (addr_IsGroup.f a0).bind fun t110 => (if t110 = true then ((addr_IsLocal.f a0).bind fun t111 => (some (!t111))) else (some false))
set_option maxHeartbeats 8000000 in
set_option maxRecDepth 100000 in
theorem addr_IsAsked.calls (a0 : Int) (r : Bool) (w : World) (h : addr_IsAsked.f a0 = some r) :
    Calls Try.prog 24 #[.int .u32 a0] w fun e w' => e = .returned (.bool r) ∧ Drawn0 w w' := by
  have H : ((addr_IsGroup.f a0).bind fun t110 => (if t110 = true then ((addr_IsLocal.f a0).bind fun t111 => (some (!t111))) else (some false))) = some r := h
  clear h
  replace H := Option.bind_eq_some_iff.mp H
  obtain ⟨t110, A20, H⟩ := H
  replace H : (if t110 = true then ((addr_IsLocal.f a0).bind fun t111 => (some (!t111))) else (some false)) = some r := H
  have A2 := Aside0.mk A20
  clear A20
  by_cases c3 : t110 = true
  · subst c3
    have H1 : ((addr_IsLocal.f a0).bind fun t111 => (some (!t111))) = some r := by rw [if_pos rfl] at H; exact H
    clear H
    have H := H1
    clear H1
    replace H := Option.bind_eq_some_iff.mp H
    obtain ⟨t111, A40, H⟩ := H
    replace H : (some (!t111)) = some r := H
    have A4 := Aside0.mk A40
    clear A40
    obtain rfl := Option.some.inj H
    go_enter Try.func24, Try.ntmps24
    go_wp2_with (first | ((with_reducible refine gate_callee (f := 45) rfl ?_); refine goesL_ (some 4) rfl rfl Try.func45 (by kernel_rfl) rfl #[.int .u32 a0] rfl (by (try simp only [List.map_toArray, List.map_cons, List.map_nil]); first | done | rfl | (simp only [List.length_drop, List.length_take]; rfl)) ?_; (with_reducible refine (addr_IsGroup.calls a0 true _ A2.out).mono ?_); rintro e w' ⟨rfl, ⟨nd, rfl⟩⟩; refine ⟨_, rfl, ?_⟩) | (go_at_call 46; (with_reducible refine (addr_IsLocal.calls a0 t111 _ A4.out).mono ?_); rintro e w' ⟨rfl, ⟨nd, rfl⟩⟩))
    go_ret
    exact ⟨by first | rfl | (simp; done) | (simp [*]; done), by repeat (first | exact Drawn0.refl _ | apply Drawn0.step)⟩
  · replace c3 := Bool.eq_false_iff.mpr c3
    subst c3
    have H1 : (some false) = some r := by rw [if_neg (show ¬ (false = true) by decide)] at H; exact H
    clear H
    have H := H1
    clear H1
    obtain rfl := Option.some.inj H
    go_enter Try.func24, Try.ntmps24
    go_wp2_with (first | ((with_reducible refine gate_callee (f := 45) rfl ?_); refine goesL_ (some 4) rfl rfl Try.func45 (by kernel_rfl) rfl #[.int .u32 a0] rfl (by (try simp only [List.map_toArray, List.map_cons, List.map_nil]); first | done | rfl | (simp only [List.length_drop, List.length_take]; rfl)) ?_; (with_reducible refine (addr_IsGroup.calls a0 false _ A2.out).mono ?_); rintro e w' ⟨rfl, ⟨nd, rfl⟩⟩; refine ⟨_, rfl, ?_⟩))
    go_ret
    exact ⟨by first | rfl | (simp; done) | (simp [*]; done), by repeat (first | exact Drawn0.refl _ | apply Drawn0.step)⟩

end Go.Proofs.Ytafmjhmpnlkeiaa.P

/- Printed by myprint.py, a program of this session, over the kit's print. -/
namespace Go.Proofs.Ytafmjhmpnlkeiaa.P
open Go.RowKit Go.Proofs.YtafmjhmpnlkeiaaW.PrintWords Go.Proofs.YtafmjhmpnlkeiaaW.PrintLast Go.Proofs.YtafmjhmpnlkeiaaW.PrintMore
attribute [local go_sem] max2_int min2_int max_two min_two max_three min_three max_four min_four   -- for this text's walks alone
set_option linter.unusedVariables false
set_option linter.unusedSimpArgs false

/-! ### igmp_record: function 26 -/
def igmp_record.f (a0_0 : Int) (a0_1 : Int) (l0_2 : List Int) : Option (Bool) := if a0_0 ≥ 1 then (if a0_0 ≤ 6 then ((addr_IsAsked.f a0_1).bind fun t306 => (if t306 = true then (some (decide ((l0_2.length : Int) ≤ 64))) else (some false))) else (some false)) else (some false)
set_option maxHeartbeats 8000000 in
set_option maxRecDepth 100000 in
theorem igmp_record.calls (a0_0 : Int) (a0_1 : Int) (A0_2 : Option Addr) (c0_2 : Nat) (l0_2 : List Int) (r : Bool) (w : World) (hr0_2 : Kd.C (Kd.int .u32) w A0_2 l0_2.length l0_2) (hc0_2 : l0_2.length ≤ c0_2) (h : igmp_record.f a0_0 a0_1 l0_2 = some r) :
    Calls Try.prog 26 #[.agg #[.int .u8 a0_0, .int .u32 a0_1, .slice A0_2 l0_2.length c0_2]] w fun e w' => e = .returned (.bool r) ∧ Below w.heap.size w w' := by
  have hu44 := Try.underlying44
  have HR0_2 := Aside0.mk hr0_2
  have HC0_2 := Aside0.mk hc0_2
  clear hr0_2 hc0_2
  have HB := Aside0.mk (Below.refl w.heap.size w)
  have H : (if a0_0 ≥ 1 then (if a0_0 ≤ 6 then ((addr_IsAsked.f a0_1).bind fun t306 => (if t306 = true then (some (decide ((l0_2.length : Int) ≤ 64))) else (some false))) else (some false)) else (some false)) = some r := h
  clear h
  by_cases c2 : a0_0 ≥ 1
  · rw [if_pos c2] at H
    have c2b0 : decide (1 ≤ a0_0) = true := decide_eq_true c2
    clear c2
    by_cases c3 : a0_0 ≤ 6
    · rw [if_pos c3] at H
      have c3b0 : decide (a0_0 ≤ 6) = true := decide_eq_true c3
      clear c3
      replace H := Option.bind_eq_some_iff.mp H
      obtain ⟨t306, A40, H⟩ := H
      replace H : (if t306 = true then (some (decide ((l0_2.length : Int) ≤ 64))) else (some false)) = some r := H
      have A4 := Aside0.mk A40
      clear A40
      by_cases c5 : t306 = true
      · subst c5
        have H1 : (some (decide ((l0_2.length : Int) ≤ 64))) = some r := by rw [if_pos rfl] at H; exact H
        clear H
        have H := H1
        clear H1
        obtain rfl := Option.some.inj H
        go_enter Try.func26, Try.ntmps26
        go_wp2_with (first | ((with_reducible refine gate_dst (N := 1) rfl ?_); (try (refine gate_guard (by rfl) ?_; dsimp only)); refine box_event ?hg (N := 1) ?hd (cs := #[.int .u8 a0_0, .int .u32 a0_1, .slice A0_2 l0_2.length c0_2]) (t := 44) ?hr ?_; (case hd => rfl); (case hg => rfl); (case hr => first | (go_simp; done) | (go_simp; rfl)); intro gb305 hg w6 hbox hb; have n0_ := Aside0.mk (below_step (by repeat (first | (with_reducible first | exact HB.out | apply below_alloc | apply pw_below_drewN | apply below_drew1) | exact HB.out)) hb); have n1_ := Aside0.mk (hbox); have n2_ := Aside0.mk ((by rw [hg]; exact (below_size (by repeat (first | (with_reducible first | exact HB.out | apply below_alloc | apply pw_below_drewN | apply below_drew1) | exact HB.out))) : w.heap.size ≤ gb305)); have n3_ := Aside0.mk ((by rw [hg]; exact (below_size (by repeat (first | (with_reducible first | exact HB.out | apply below_alloc | apply pw_below_drewN | apply below_drew1) | exact HB.out))) : w.heap.size ≤ gb305)); clear HB; have HB := n0_; have BK305 := n1_; have GW305 := n2_; have GE305 := n3_; clear n0_ n1_ n2_ n3_; clear hb hbox hg; have hcz7_0 : w6.cell? ⟨gb305, 0, none⟩ = some (.int .u8 a0_0) := (blk_cell BK305.out 0).trans rfl; have hcz7_1 : w6.cell? ⟨gb305, 1, none⟩ = some (.int .u32 a0_1) := (blk_cell BK305.out 1).trans rfl; have hcz7_2 : w6.cell? ⟨gb305, 2, none⟩ = some (.slice A0_2 l0_2.length c0_2) := (blk_cell BK305.out 2).trans rfl; have hfz7_0 := blk_frozen BK305.out 0; have hfz7_1 := blk_frozen BK305.out 1; have hfz7_2 := blk_frozen BK305.out 2) | (go_at_call 24; (with_reducible refine (addr_IsAsked.calls a0_1 true _ A4.out).mono ?_); rintro e w' ⟨rfl, ⟨nd, rfl⟩⟩))
        go_ret
        exact ⟨by first | rfl | (simp [errW_none, errW_some] <;> rfl) | (simp [*, errW_none, errW_some] <;> rfl), by repeat (first | (with_reducible first | exact HB.out | apply below_alloc | apply pw_below_drewN | apply below_drew1 | refine below_set ?_ GE305.out) | exact HB.out)⟩
      · replace c5 := Bool.eq_false_iff.mpr c5
        subst c5
        have H1 : (some false) = some r := by rw [if_neg (show ¬ (false = true) by decide)] at H; exact H
        clear H
        have H := H1
        clear H1
        obtain rfl := Option.some.inj H
        go_enter Try.func26, Try.ntmps26
        go_wp2_with (first | ((with_reducible refine gate_dst (N := 1) rfl ?_); (try (refine gate_guard (by rfl) ?_; dsimp only)); refine box_event ?hg (N := 1) ?hd (cs := #[.int .u8 a0_0, .int .u32 a0_1, .slice A0_2 l0_2.length c0_2]) (t := 44) ?hr ?_; (case hd => rfl); (case hg => rfl); (case hr => first | (go_simp; done) | (go_simp; rfl)); intro gb305 hg w8 hbox hb; have n0_ := Aside0.mk (below_step (by repeat (first | (with_reducible first | exact HB.out | apply below_alloc | apply pw_below_drewN | apply below_drew1) | exact HB.out)) hb); have n1_ := Aside0.mk (hbox); have n2_ := Aside0.mk ((by rw [hg]; exact (below_size (by repeat (first | (with_reducible first | exact HB.out | apply below_alloc | apply pw_below_drewN | apply below_drew1) | exact HB.out))) : w.heap.size ≤ gb305)); have n3_ := Aside0.mk ((by rw [hg]; exact (below_size (by repeat (first | (with_reducible first | exact HB.out | apply below_alloc | apply pw_below_drewN | apply below_drew1) | exact HB.out))) : w.heap.size ≤ gb305)); clear HB; have HB := n0_; have BK305 := n1_; have GW305 := n2_; have GE305 := n3_; clear n0_ n1_ n2_ n3_; clear hb hbox hg; have hcz9_0 : w8.cell? ⟨gb305, 0, none⟩ = some (.int .u8 a0_0) := (blk_cell BK305.out 0).trans rfl; have hcz9_1 : w8.cell? ⟨gb305, 1, none⟩ = some (.int .u32 a0_1) := (blk_cell BK305.out 1).trans rfl; have hcz9_2 : w8.cell? ⟨gb305, 2, none⟩ = some (.slice A0_2 l0_2.length c0_2) := (blk_cell BK305.out 2).trans rfl; have hfz9_0 := blk_frozen BK305.out 0; have hfz9_1 := blk_frozen BK305.out 1; have hfz9_2 := blk_frozen BK305.out 2) | (go_at_call 24; (with_reducible refine (addr_IsAsked.calls a0_1 false _ A4.out).mono ?_); rintro e w' ⟨rfl, ⟨nd, rfl⟩⟩))
        go_ret
        exact ⟨by first | rfl | (simp [errW_none, errW_some] <;> rfl) | (simp [*, errW_none, errW_some] <;> rfl), by repeat (first | (with_reducible first | exact HB.out | apply below_alloc | apply pw_below_drewN | apply below_drew1 | refine below_set ?_ GE305.out) | exact HB.out)⟩
    · rw [if_neg c3] at H
      have c3b0 : decide (a0_0 ≤ 6) = false := decide_eq_false c3
      clear c3
      obtain rfl := Option.some.inj H
      go_enter Try.func26, Try.ntmps26
      go_wp2_with (first | ((with_reducible refine gate_dst (N := 1) rfl ?_); (try (refine gate_guard (by rfl) ?_; dsimp only)); refine box_event ?hg (N := 1) ?hd (cs := #[.int .u8 a0_0, .int .u32 a0_1, .slice A0_2 l0_2.length c0_2]) (t := 44) ?hr ?_; (case hd => rfl); (case hg => rfl); (case hr => first | (go_simp; done) | (go_simp; rfl)); intro gb305 hg w10 hbox hb; have n0_ := Aside0.mk (below_step (by repeat (first | (with_reducible first | exact HB.out | apply below_alloc | apply pw_below_drewN | apply below_drew1) | exact HB.out)) hb); have n1_ := Aside0.mk (hbox); have n2_ := Aside0.mk ((by rw [hg]; exact (below_size (by repeat (first | (with_reducible first | exact HB.out | apply below_alloc | apply pw_below_drewN | apply below_drew1) | exact HB.out))) : w.heap.size ≤ gb305)); have n3_ := Aside0.mk ((by rw [hg]; exact (below_size (by repeat (first | (with_reducible first | exact HB.out | apply below_alloc | apply pw_below_drewN | apply below_drew1) | exact HB.out))) : w.heap.size ≤ gb305)); clear HB; have HB := n0_; have BK305 := n1_; have GW305 := n2_; have GE305 := n3_; clear n0_ n1_ n2_ n3_; clear hb hbox hg; have hcz11_0 : w10.cell? ⟨gb305, 0, none⟩ = some (.int .u8 a0_0) := (blk_cell BK305.out 0).trans rfl; have hcz11_1 : w10.cell? ⟨gb305, 1, none⟩ = some (.int .u32 a0_1) := (blk_cell BK305.out 1).trans rfl; have hcz11_2 : w10.cell? ⟨gb305, 2, none⟩ = some (.slice A0_2 l0_2.length c0_2) := (blk_cell BK305.out 2).trans rfl; have hfz11_0 := blk_frozen BK305.out 0; have hfz11_1 := blk_frozen BK305.out 1; have hfz11_2 := blk_frozen BK305.out 2))
      go_ret
      exact ⟨by first | rfl | (simp [errW_none, errW_some] <;> rfl) | (simp [*, errW_none, errW_some] <;> rfl), by repeat (first | (with_reducible first | exact HB.out | apply below_alloc | apply pw_below_drewN | apply below_drew1 | refine below_set ?_ GE305.out) | exact HB.out)⟩
  · rw [if_neg c2] at H
    have c2b0 : decide (1 ≤ a0_0) = false := decide_eq_false c2
    clear c2
    obtain rfl := Option.some.inj H
    go_enter Try.func26, Try.ntmps26
    go_wp2_with (first | ((with_reducible refine gate_dst (N := 1) rfl ?_); (try (refine gate_guard (by rfl) ?_; dsimp only)); refine box_event ?hg (N := 1) ?hd (cs := #[.int .u8 a0_0, .int .u32 a0_1, .slice A0_2 l0_2.length c0_2]) (t := 44) ?hr ?_; (case hd => rfl); (case hg => rfl); (case hr => first | (go_simp; done) | (go_simp; rfl)); intro gb305 hg w12 hbox hb; have n0_ := Aside0.mk (below_step (by repeat (first | (with_reducible first | exact HB.out | apply below_alloc | apply pw_below_drewN | apply below_drew1) | exact HB.out)) hb); have n1_ := Aside0.mk (hbox); have n2_ := Aside0.mk ((by rw [hg]; exact (below_size (by repeat (first | (with_reducible first | exact HB.out | apply below_alloc | apply pw_below_drewN | apply below_drew1) | exact HB.out))) : w.heap.size ≤ gb305)); have n3_ := Aside0.mk ((by rw [hg]; exact (below_size (by repeat (first | (with_reducible first | exact HB.out | apply below_alloc | apply pw_below_drewN | apply below_drew1) | exact HB.out))) : w.heap.size ≤ gb305)); clear HB; have HB := n0_; have BK305 := n1_; have GW305 := n2_; have GE305 := n3_; clear n0_ n1_ n2_ n3_; clear hb hbox hg; have hcz13_0 : w12.cell? ⟨gb305, 0, none⟩ = some (.int .u8 a0_0) := (blk_cell BK305.out 0).trans rfl; have hcz13_1 : w12.cell? ⟨gb305, 1, none⟩ = some (.int .u32 a0_1) := (blk_cell BK305.out 1).trans rfl; have hcz13_2 : w12.cell? ⟨gb305, 2, none⟩ = some (.slice A0_2 l0_2.length c0_2) := (blk_cell BK305.out 2).trans rfl; have hfz13_0 := blk_frozen BK305.out 0; have hfz13_1 := blk_frozen BK305.out 1; have hfz13_2 := blk_frozen BK305.out 2))
    go_ret
    exact ⟨by first | rfl | (simp [errW_none, errW_some] <;> rfl) | (simp [*, errW_none, errW_some] <;> rfl), by repeat (first | (with_reducible first | exact HB.out | apply below_alloc | apply pw_below_drewN | apply below_drew1 | refine below_set ?_ GE305.out) | exact HB.out)⟩

end Go.Proofs.Ytafmjhmpnlkeiaa.P

/- Printed by myprint.py, a program of this session, over the kit's print. -/
namespace Go.Proofs.Ytafmjhmpnlkeiaa.P
open Go.RowKit Go.Proofs.YtafmjhmpnlkeiaaW.PrintWords Go.Proofs.YtafmjhmpnlkeiaaW.PrintLast Go.Proofs.YtafmjhmpnlkeiaaW.PrintMore
attribute [local go_sem] max2_int min2_int max_two min_two max_three min_three max_four min_four   -- for this text's walks alone
set_option linter.unusedVariables false
set_option linter.unusedSimpArgs false

/-! ### igmp_Right_1: function 25 -/
def igmp_Right_1.f (a0_0 : Int) (a0_1 : Int) (l0_2 : List Int) : Option (Bool) := (igmp_record.f a0_0 a0_1 l0_2).bind fun t308 => (some (!t308))
set_option maxHeartbeats 8000000 in
set_option maxRecDepth 100000 in
theorem igmp_Right_1.calls (a0_0 : Int) (a0_1 : Int) (A0_2 : Option Addr) (c0_2 : Nat) (l0_2 : List Int) (r : Bool) (w : World) (hr0_2 : Kd.C (Kd.int .u32) w A0_2 l0_2.length l0_2) (hc0_2 : l0_2.length ≤ c0_2) (h : igmp_Right_1.f a0_0 a0_1 l0_2 = some r) :
    Calls Try.prog 25 #[.agg #[.int .u8 a0_0, .int .u32 a0_1, .slice A0_2 l0_2.length c0_2]] w fun e w' => e = .returned (.bool r) ∧ Below w.heap.size w w' := by
  have hu44 := Try.underlying44
  have HR0_2 := Aside0.mk hr0_2
  have HC0_2 := Aside0.mk hc0_2
  clear hr0_2 hc0_2
  have HB := Aside0.mk (Below.refl w.heap.size w)
  have H : ((igmp_record.f a0_0 a0_1 l0_2).bind fun t308 => (some (!t308))) = some r := h
  clear h
  replace H := Option.bind_eq_some_iff.mp H
  obtain ⟨t308, A20, H⟩ := H
  replace H : (some (!t308)) = some r := H
  have A2 := Aside0.mk A20
  clear A20
  obtain rfl := Option.some.inj H
  go_enter Try.func25, Try.ntmps25
  go_wp2_with (first | ((with_reducible refine gate_dst (N := 1) rfl ?_); refine box_event ?hg (N := 1) ?hd (cs := #[.int .u8 a0_0, .int .u32 a0_1, .slice A0_2 l0_2.length c0_2]) (t := 44) ?hr ?_; (case hd => rfl); (case hg => rfl); (case hr => first | (go_simp; done) | (go_simp; rfl)); intro gb307 hg w3 hbox hb; have n0_ := Aside0.mk (below_step (by repeat (first | (with_reducible first | exact HB.out | apply below_alloc | apply pw_below_drewN | apply below_drew1) | exact HB.out)) hb); have n1_ := Aside0.mk (hbox); have n2_ := Aside0.mk ((by rw [hg]; exact (below_size (by repeat (first | (with_reducible first | exact HB.out | apply below_alloc | apply pw_below_drewN | apply below_drew1) | exact HB.out))) : w.heap.size ≤ gb307)); have n3_ := Aside0.mk ((by rw [hg]; exact (below_size (by repeat (first | (with_reducible first | exact HB.out | apply below_alloc | apply pw_below_drewN | apply below_drew1) | exact HB.out))) : w.heap.size ≤ gb307)); clear HB; have HB := n0_; have BK307 := n1_; have GW307 := n2_; have GE307 := n3_; clear n0_ n1_ n2_ n3_; clear hb hbox hg; have hcz4_0 : w3.cell? ⟨gb307, 0, none⟩ = some (.int .u8 a0_0) := (blk_cell BK307.out 0).trans rfl; have hcz4_1 : w3.cell? ⟨gb307, 1, none⟩ = some (.int .u32 a0_1) := (blk_cell BK307.out 1).trans rfl; have hcz4_2 : w3.cell? ⟨gb307, 2, none⟩ = some (.slice A0_2 l0_2.length c0_2) := (blk_cell BK307.out 2).trans rfl; have hfz4_0 := blk_frozen BK307.out 0; have hfz4_1 := blk_frozen BK307.out 1; have hfz4_2 := blk_frozen BK307.out 2) | ((with_reducible refine gate_callee (f := 26) rfl ?_); refine goesL_ (some 4) rfl rfl Try.func26 (by kernel_rfl) rfl #[.agg #[.int .u8 a0_0, .int .u32 a0_1, .slice A0_2 l0_2.length c0_2]] rfl (by (try simp only [List.map_toArray, List.map_cons, List.map_nil]); first | done | rfl | (simp only [List.length_drop, List.length_take]; rfl)) ?_; (with_reducible refine (igmp_record.calls a0_0 a0_1 _ _ l0_2 t308 _ ?side1 ?side2 A2.out).mono ?_); (case side1 => repeat (first | exact (Kd.C_below HR0_2.out HB.out) | (with_reducible refine Kd.C_alloc ?_ _) | (with_reducible refine Kd.C_drewN ?_ _) | (with_reducible refine Kd.C_drew ?_))); (case side2 => exact HC0_2.out); rintro e w5 ⟨rfl, hb⟩; refine ⟨_, rfl, ?_⟩; have n0_ := Aside0.mk (blk_below (g := gb307) (o := .cells #[.int .u8 a0_0, .int .u32 a0_1, .slice A0_2 l0_2.length c0_2] 44 (0, 0)) (by (with_reducible repeat (first | refine blk_drewN ?_ _ | refine blk_drew ?_ | refine blk_alloc ?_ _)); exact BK307.out) hb); have n1_ := Aside0.mk (below_step (by repeat (first | (with_reducible first | exact HB.out | apply below_alloc | apply pw_below_drewN | apply below_drew1 | refine below_set ?_ GE307.out) | exact HB.out)) hb); clear BK307; clear HB; have BK307 := n0_; have HB := n1_; clear n0_ n1_; (try clear hb); (try clear hb2); (try clear hk); (try clear hi)))
  go_ret
  exact ⟨by first | rfl | (simp [errW_none, errW_some] <;> rfl) | (simp [*, errW_none, errW_some] <;> rfl), by repeat (first | (with_reducible first | exact HB.out | apply below_alloc | apply pw_below_drewN | apply below_drew1 | refine below_set ?_ GE307.out) | exact HB.out)⟩

end Go.Proofs.Ytafmjhmpnlkeiaa.P

/- slices.IndexFunc and slices.ContainsFunc over records, handed 'odd': the walks. -/
namespace Go.Proofs.Ytafmjhmpnlkeiaa.P
open Go.RowKit Go.Proofs.YtafmjhmpnlkeiaaW.PrintWords Go.Proofs.YtafmjhmpnlkeiaaW.PrintLast Go.Proofs.YtafmjhmpnlkeiaaW.PrintMore
set_option linter.unusedVariables false
set_option linter.unusedSimpArgs false

def oddRec (a : S44) : Bool := !(decide (1 ≤ a.f0) && decide (a.f0 ≤ 6) && decide (3758096640 ≤ a.f1) && decide (a.f1 ≤ 4026531839) && decide (a.f2.length ≤ 64))
/-- The first odd one's place, or -1. -/
def oddAt : List S44 → Int
  | [] => -1
  | a :: l => if oddRec a then 0 else if oddAt l < 0 then -1 else oddAt l + 1
theorem asked_f (a : Int) : addr_IsAsked.f a = some (decide (3758096640 ≤ a) && decide (a ≤ 4026531839)) := by
  unfold addr_IsAsked.f addr_IsGroup.f addr_IsLocal.f
  simp only [Option.bind_some]
  by_cases hg : a / 268435456 = 14
  · rw [if_pos (by simpa using hg)]
    congr 1
    rw [Bool.eq_iff_iff]
    simp
    omega
  · rw [if_neg (by simpa using hg)]
    congr 1
    rw [Bool.eq_iff_iff]
    simp
    omega
theorem odd_f (a : S44) : igmp_Right_1.f a.f0 a.f1 a.f2 = some (oddRec a) := by
  unfold igmp_Right_1.f igmp_record.f oddRec
  rw [asked_f]
  generalize (decide (3758096640 ≤ a.f1)) = p
  generalize (decide (a.f1 ≤ 4026531839)) = q
  by_cases e0 : 1 ≤ a.f0
  · by_cases e1 : a.f0 ≤ 6
    · have e3 : (decide ((a.f2.length : Int) ≤ 64)) = decide (a.f2.length ≤ 64) := by
        rw [decide_eq_decide]
        omega
      rw [e3]
      cases p <;> cases q <;> simp [e0, e1]
    · simp [e0, e1]
  · simp [e0]
theorem oddAt_lo (l : List S44) : -1 ≤ oddAt l ∧ oddAt l < l.length := by
  induction l with
  | nil => simp [oddAt]
  | cons a l ih =>
    simp only [oddAt, List.length_cons]
    split
    · omega
    · split <;> omega
theorem oddAt_no (l : List S44) (x : Nat) (h : ∀ j (hj : j < l.length), j < x → oddRec l[j] = false) (hx : x ≤ l.length) : oddAt l = if oddAt (l.drop x) < 0 then -1 else oddAt (l.drop x) + x := by
  induction x generalizing l with
  | zero =>
    have := oddAt_lo l
    simp
    omega
  | succ x ih =>
    cases l with
    | nil => simp at hx
    | cons a l =>
      have h0 : oddRec a = false := h 0 (by simp) (by omega)
      have h1 := ih l (fun j hj hjx => h (j + 1) (by simp; omega) (by omega)) (by simpa using hx)
      have := oddAt_lo (l.drop x)
      simp only [oddAt, h0, List.drop_succ_cons]
      rw [h1]
      simp only [Bool.false_eq_true, if_false]
      split
      · simp
      · split
        · omega
        · push_cast
          omega
theorem oddAt_any (l : List S44) : decide (oddAt l ≥ 0) = l.any oddRec := by
  induction l with
  | nil => rfl
  | cons a l ih =>
    simp only [oddAt, List.any_cons, ← ih]
    by_cases h : oddRec a = true
    · simp [h]
    · rw [Bool.not_eq_true] at h
      simp only [h, Bool.false_eq_true, if_false, Bool.false_or]
      by_cases h2 : oddAt l < 0
      · rw [if_pos h2, decide_eq_decide]
        omega
      · rw [if_neg h2, decide_eq_decide]
        omega
set_option maxHeartbeats 1000000 in
set_option maxRecDepth 100000 in
theorem indexFunc47 (A0 : Option Addr) (c0 : Nat) (l0 : List S44) (w : World) (hr0 : Kd.C k44 w A0 l0.length l0) (hc0 : l0.length ≤ c0) :
    Calls Try.prog 47 #[.slice A0 l0.length c0, .func (.func 25) #[] #[]] w fun e w' => e = .returned (.int .i64 (oddAt l0)) ∧ Below w.heap.size w w' := by
  have hu44 := Try.underlying44
  have hn0 : l0.length ≤ 9223372036854775807 := hr0.2.1
  have HR0 := Aside0.mk hr0
  clear hr0
  go_enter Try.func47, Try.ntmps47
  go_wp2
  go_loopw [8] (fun v wr => ∃ x : Nat, v = .int .i64 x ∧ x ≤ l0.length ∧ Aside0 (∀ j (hj : j < l0.length), j < x → oddRec l0[j] = false) ∧ Aside0 (Below w.heap.size w wr)) (fun v _ => l0.length - (intOf v).toNat)
  case atStart => exact ⟨0, rfl, by omega, ⟨fun _ _ h => by omega⟩, ⟨Below.refl _ _⟩⟩
  case round =>
    obtain ⟨x, rfl, hx, HE, HB⟩ := hrel
    by_cases hlt : x < l0.length
    · obtain ⟨ad0, B0, e0, rfl, p0, p1, p2, p3, p4⟩ := at_T44 (Kd.C_below HR0.out HB.out) (x : Int) (by omega) (by omega)
      simp only [Int.toNat_natCast] at p0 p1 p2
      have ea := Aside0.mk (rdT44_eq l0 x hlt)
      generalize rd_T44 l0 (x : Int) = a at p0 p1 p2 p3 p4 ea
      have P4 := Aside0.mk p4
      clear p4
      go_wp2_with fail
      refine (igmp_Right_1.calls a.f0 a.f1 B0 e0 a.f2 (oddRec a) _ P4.out p3 (odd_f a)).mono ?_
      rintro e w1 ⟨rfl, hb1⟩
      have HB1 := Aside0.mk (HB.out.trans (hb1.mono HB.out.size))
      clear hb1 p0 p1 p2
      by_cases hq : oddRec a = true
      · rw [hq]
        go_wp2
        go_ret
        refine ⟨?_, HB1.out⟩
        rw [oddAt_no l0 x HE.out hx, List.drop_eq_getElem_cons hlt, ← ea.out]
        simp [oddAt, hq]
      · rw [Bool.not_eq_true] at hq
        rw [hq]
        go_wp2
        go_roundw
        case measure => simp [intOf]; omega
        case rel =>
          refine ⟨x + 1, by go_num, by omega, ⟨fun j hj hjx => ?_⟩, ⟨HB1.out⟩⟩
          by_cases hjj : j < x
          · exact HE.out j hj hjj
          · obtain rfl : j = x := by omega
            rw [← ea.out]
            exact hq
    · go_wp2
      go_ret
      refine ⟨?_, HB.out⟩
      rw [oddAt_no l0 x HE.out hx, List.drop_of_length_le (by omega)]
      simp [oddAt]
def api_Record_27.f (l0 : List (S44)) : Option (Bool) := some (l0.any oddRec)
set_option maxHeartbeats 1000000 in
set_option maxRecDepth 100000 in
theorem api_Record_27.calls (A0 : Option Addr) (c0 : Nat) (l0 : List (S44)) (r : Bool) (w : World) (hr0 : Kd.C k44 w A0 l0.length l0) (hc0 : l0.length ≤ c0) (h : api_Record_27.f l0 = some r) :
    Calls Try.prog 27 #[.slice A0 l0.length c0, .func (.func 25) #[] #[]] w fun e w' => e = .returned (.bool r) ∧ Below w.heap.size w w' := by
  obtain rfl := Option.some.inj h
  have HA := Aside0.mk (oddAt_any l0)
  clear h
  go_enter Try.func27, Try.ntmps27
  go_wp2_with fail
  refine (indexFunc47 A0 c0 l0 w hr0 hc0).mono ?_
  rintro e w1 ⟨rfl, hb1⟩
  go_wp2
  go_ret
  exact ⟨by rw [← HA.out]; rfl, hb1⟩
end Go.Proofs.Ytafmjhmpnlkeiaa.P
