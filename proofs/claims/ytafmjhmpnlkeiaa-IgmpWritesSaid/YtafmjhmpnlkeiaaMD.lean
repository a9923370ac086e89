/- Seat 5's texts, merged by a program of this session: F13, GLaw2. Parts of the proof of IgmpWrites: whatever two messages, the law returns true. -/
import Derived.Test.YtafmjhmpnlkeiaaMA
import Derived.Test.YtafmjhmpnlkeiaaMB
import Derived.Test.YtafmjhmpnlkeiaaMC

/- Printed by myprint.py, a program of this session, over the kit's print. -/
namespace Go.Proofs.Ytafmjhmpnlkeiaa.P
open Go.RowKit Go.Proofs.YtafmjhmpnlkeiaaW.PrintWords Go.Proofs.YtafmjhmpnlkeiaaW.PrintLast Go.Proofs.YtafmjhmpnlkeiaaW.PrintMore
attribute [local go_sem] max2_int min2_int max_two min_two max_three min_three max_four min_four   -- for this text's walks alone
set_option linter.unusedVariables false
set_option linter.unusedSimpArgs false

/-! ### stolonref05_Same: function 13 -/
def stolonref05_Same.j0 : Nat → Bool → Int → Int → Int → Int → Bool → Int → Int → List Int → List (S44) → Int → Int → Int → Int → Bool → Int → Int → List Int → List (S44) → Option (Bool)
  | 0, _, _, _, _, _, _, _, _, _, _, _, _, _, _, _, _, _, _, _ => none
  | k + 1, x5, x204000, x204001, x204002, x204003, x204004, x204005, x204006, x204007, x204008, x205000, x205001, x205002, x205003, x205004, x205005, x205006, x205007, x205008 => if x5 = true then (if (x204004 == x205004) = true then (if x204005 = x205005 then (if x204006 = x205006 then ((stolonref01_Rows.f k x204007 x205007).bind fun t205 => (if t205 = true then ((stolonref05_Recs.f k x204008 x205008).bind fun t206 => (some t206)) else (some false))) else (some false)) else (some false)) else (some false)) else (some false)
def stolonref05_Same.f (k : Nat) (a0_0 : Int) (a0_1 : Int) (a0_2 : Int) (a0_3 : Int) (a0_4 : Bool) (a0_5 : Int) (a0_6 : Int) (l0_7 : List Int) (l0_8 : List (S44)) (a1_0 : Int) (a1_1 : Int) (a1_2 : Int) (a1_3 : Int) (a1_4 : Bool) (a1_5 : Int) (a1_6 : Int) (l1_7 : List Int) (l1_8 : List (S44)) : Option (Bool) := if a0_0 = a1_0 then (if a0_1 = a1_1 then (if a0_2 = a1_2 then (stolonref05_Same.j0 k (a0_3 == a1_3) a0_0 a0_1 a0_2 a0_3 a0_4 a0_5 a0_6 l0_7 l0_8 a1_0 a1_1 a1_2 a1_3 a1_4 a1_5 a1_6 l1_7 l1_8) else (stolonref05_Same.j0 k false a0_0 a0_1 a0_2 a0_3 a0_4 a0_5 a0_6 l0_7 l0_8 a1_0 a1_1 a1_2 a1_3 a1_4 a1_5 a1_6 l1_7 l1_8)) else (stolonref05_Same.j0 k false a0_0 a0_1 a0_2 a0_3 a0_4 a0_5 a0_6 l0_7 l0_8 a1_0 a1_1 a1_2 a1_3 a1_4 a1_5 a1_6 l1_7 l1_8)) else (stolonref05_Same.j0 k false a0_0 a0_1 a0_2 a0_3 a0_4 a0_5 a0_6 l0_7 l0_8 a1_0 a1_1 a1_2 a1_3 a1_4 a1_5 a1_6 l1_7 l1_8)
theorem stolonref05_Same.mono_l : ∀ k, (∀ y0 y1 y2 y3 y4 y5 y6 y7 y8 y9 y10 y11 y12 y13 y14 y15 y16 y17 y18, LeO (stolonref05_Same.j0 k y0 y1 y2 y3 y4 y5 y6 y7 y8 y9 y10 y11 y12 y13 y14 y15 y16 y17 y18) (stolonref05_Same.j0 (k + 1) y0 y1 y2 y3 y4 y5 y6 y7 y8 y9 y10 y11 y12 y13 y14 y15 y16 y17 y18))
  | 0 => fun _ _ _ _ _ _ _ _ _ _ _ _ _ _ _ _ _ _ _ r h => by simp [stolonref05_Same.j0] at h
  | k + 1 => by
    have ih0 := stolonref05_Same.mono_l k
    · intro y0 y1 y2 y3 y4 y5 y6 y7 y8 y9 y10 y11 y12 y13 y14 y15 y16 y17 y18
      unfold stolonref05_Same.j0
      repeat' first
      | (with_reducible exact ih0 _ _ _ _ _ _ _ _ _ _ _ _ _ _ _ _ _ _ _)
      | (with_reducible exact stolonref01_Rows.mono _ _ _)
      | (with_reducible exact stolonref05_Recs.mono _ _ _)
      | (with_reducible exact LeO.refl _)
      | (with_reducible exact LeO.none _)
      | (with_reducible refine LeO.ite ?_ ?_)
      | (with_reducible refine LeO.bind ?_ (fun _ => ?_))
      | exact ih0 _ _ _ _ _ _ _ _ _ _ _ _ _ _ _ _ _ _ _
      | exact stolonref01_Rows.mono _ _ _
      | exact stolonref05_Recs.mono _ _ _
      | exact LeO.none _
      | refine LeO.ite ?_ ?_
      | refine LeO.bind ?_ (fun _ => ?_)
theorem stolonref05_Same.mono : ∀ a0 a1 a2 a3 a4 a5 a6 a7 a8 a9 a10 a11 a12 a13 a14 a15 a16 a17 k, LeO (stolonref05_Same.f k a0 a1 a2 a3 a4 a5 a6 a7 a8 a9 a10 a11 a12 a13 a14 a15 a16 a17) (stolonref05_Same.f (k + 1) a0 a1 a2 a3 a4 a5 a6 a7 a8 a9 a10 a11 a12 a13 a14 a15 a16 a17) := by
  intro a0 a1 a2 a3 a4 a5 a6 a7 a8 a9 a10 a11 a12 a13 a14 a15 a16 a17 k
  have ih0 := stolonref05_Same.mono_l k
  unfold stolonref05_Same.f
  repeat' first
      | (with_reducible exact ih0 _ _ _ _ _ _ _ _ _ _ _ _ _ _ _ _ _ _ _)
      | (with_reducible exact stolonref01_Rows.mono _ _ _)
      | (with_reducible exact stolonref05_Recs.mono _ _ _)
      | (with_reducible exact LeO.refl _)
      | (with_reducible exact LeO.none _)
      | (with_reducible refine LeO.ite ?_ ?_)
      | (with_reducible refine LeO.bind ?_ (fun _ => ?_))
      | exact ih0 _ _ _ _ _ _ _ _ _ _ _ _ _ _ _ _ _ _ _
      | exact stolonref01_Rows.mono _ _ _
      | exact stolonref05_Recs.mono _ _ _
      | exact LeO.none _
      | refine LeO.ite ?_ ?_
      | refine LeO.bind ?_ (fun _ => ?_)
set_option maxHeartbeats 8000000 in
set_option maxRecDepth 100000 in
theorem stolonref05_Same.calls (k : Nat) (a0_0 : Int) (a0_1 : Int) (a0_2 : Int) (a0_3 : Int) (a0_4 : Bool) (a0_5 : Int) (a0_6 : Int) (A0_7 : Option Addr) (c0_7 : Nat) (l0_7 : List Int) (A0_8 : Option Addr) (c0_8 : Nat) (l0_8 : List (S44)) (a1_0 : Int) (a1_1 : Int) (a1_2 : Int) (a1_3 : Int) (a1_4 : Bool) (a1_5 : Int) (a1_6 : Int) (A1_7 : Option Addr) (c1_7 : Nat) (l1_7 : List Int) (A1_8 : Option Addr) (c1_8 : Nat) (l1_8 : List (S44)) (r : Bool) (w : World) (hr0_7 : Kd.C (Kd.int .u32) w A0_7 l0_7.length l0_7) (hc0_7 : l0_7.length ≤ c0_7) (hr0_8 : Kd.C k44 w A0_8 l0_8.length l0_8) (hc0_8 : l0_8.length ≤ c0_8) (hr1_7 : Kd.C (Kd.int .u32) w A1_7 l1_7.length l1_7) (hc1_7 : l1_7.length ≤ c1_7) (hr1_8 : Kd.C k44 w A1_8 l1_8.length l1_8) (hc1_8 : l1_8.length ≤ c1_8) (h : stolonref05_Same.f k a0_0 a0_1 a0_2 a0_3 a0_4 a0_5 a0_6 l0_7 l0_8 a1_0 a1_1 a1_2 a1_3 a1_4 a1_5 a1_6 l1_7 l1_8 = some r) :
    Calls Try.prog 13 #[.agg #[.int .u8 a0_0, .int .i64 a0_1, .int .u8 a0_2, .int .u32 a0_3, .bool a0_4, .int .u8 a0_5, .int .u8 a0_6, .slice A0_7 l0_7.length c0_7, .slice A0_8 l0_8.length c0_8], .agg #[.int .u8 a1_0, .int .i64 a1_1, .int .u8 a1_2, .int .u32 a1_3, .bool a1_4, .int .u8 a1_5, .int .u8 a1_6, .slice A1_7 l1_7.length c1_7, .slice A1_8 l1_8.length c1_8]] w fun e w' => e = .returned (.bool r) ∧ Below w.heap.size w w' := by
  have hu27 := Try.underlying27
  have HR0_7 := Aside0.mk hr0_7
  have HC0_7 := Aside0.mk hc0_7
  clear hr0_7 hc0_7
  have HR0_8 := Aside0.mk hr0_8
  have HC0_8 := Aside0.mk hc0_8
  clear hr0_8 hc0_8
  have HR1_7 := Aside0.mk hr1_7
  have HC1_7 := Aside0.mk hc1_7
  clear hr1_7 hc1_7
  have HR1_8 := Aside0.mk hr1_8
  have HC1_8 := Aside0.mk hc1_8
  clear hr1_8 hc1_8
  have HB := Aside0.mk (Below.refl w.heap.size w)
  have H : (if a0_0 = a1_0 then (if a0_1 = a1_1 then (if a0_2 = a1_2 then (stolonref05_Same.j0 k (a0_3 == a1_3) a0_0 a0_1 a0_2 a0_3 a0_4 a0_5 a0_6 l0_7 l0_8 a1_0 a1_1 a1_2 a1_3 a1_4 a1_5 a1_6 l1_7 l1_8) else (stolonref05_Same.j0 k false a0_0 a0_1 a0_2 a0_3 a0_4 a0_5 a0_6 l0_7 l0_8 a1_0 a1_1 a1_2 a1_3 a1_4 a1_5 a1_6 l1_7 l1_8)) else (stolonref05_Same.j0 k false a0_0 a0_1 a0_2 a0_3 a0_4 a0_5 a0_6 l0_7 l0_8 a1_0 a1_1 a1_2 a1_3 a1_4 a1_5 a1_6 l1_7 l1_8)) else (stolonref05_Same.j0 k false a0_0 a0_1 a0_2 a0_3 a0_4 a0_5 a0_6 l0_7 l0_8 a1_0 a1_1 a1_2 a1_3 a1_4 a1_5 a1_6 l1_7 l1_8)) = some r := h
  clear h
  have HC3 := Aside0.mk H
  clear H
  go_enter Try.func13, Try.ntmps13
  go_upto_region 1 with (first | ((with_reducible refine gate_dst (N := 2) rfl ?_); refine box_event ?hg (N := 2) ?hd (cs := #[.int .u8 a0_0, .int .i64 a0_1, .int .u8 a0_2, .int .u32 a0_3, .bool a0_4, .int .u8 a0_5, .int .u8 a0_6, .slice A0_7 l0_7.length c0_7, .slice A0_8 l0_8.length c0_8]) (t := 27) ?hr ?_; (case hd => rfl); (case hg => rfl); (case hr => first | (go_simp; done) | (go_simp; rfl)); intro gb203 hg w4 hbox hb; have n0_ := Aside0.mk (below_step (by repeat (first | (with_reducible first | exact HB.out | apply below_alloc | apply pw_below_drewN | apply below_drew1) | exact HB.out)) hb); have n1_ := Aside0.mk (hbox); have n2_ := Aside0.mk ((by rw [hg]; exact (below_size (by repeat (first | (with_reducible first | exact HB.out | apply below_alloc | apply pw_below_drewN | apply below_drew1) | exact HB.out))) : w.heap.size ≤ gb203)); have n3_ := Aside0.mk ((by rw [hg]; exact (below_size (by repeat (first | (with_reducible first | exact HB.out | apply below_alloc | apply pw_below_drewN | apply below_drew1) | exact HB.out))) : w.heap.size ≤ gb203)); clear HB; have HB := n0_; have BK203 := n1_; have GW203 := n2_; have GE203 := n3_; clear n0_ n1_ n2_ n3_; clear hb hbox hg) | ((with_reducible refine gate_dst (N := 3) rfl ?_); refine box_event ?hg (N := 3) ?hd (cs := #[.int .u8 a1_0, .int .i64 a1_1, .int .u8 a1_2, .int .u32 a1_3, .bool a1_4, .int .u8 a1_5, .int .u8 a1_6, .slice A1_7 l1_7.length c1_7, .slice A1_8 l1_8.length c1_8]) (t := 27) ?hr ?_; (case hd => rfl); (case hg => rfl); (case hr => first | (go_simp; done) | (go_simp; rfl)); intro gb204 hg w5 hbox hb; have n0_ := Aside0.mk (blk_below (g := gb203) (o := .cells #[.int .u8 a0_0, .int .i64 a0_1, .int .u8 a0_2, .int .u32 a0_3, .bool a0_4, .int .u8 a0_5, .int .u8 a0_6, .slice A0_7 l0_7.length c0_7, .slice A0_8 l0_8.length c0_8] 27 (0, 0)) (by (with_reducible repeat (first | refine blk_drewN ?_ _ | refine blk_drew ?_ | refine blk_alloc ?_ _)); exact BK203.out) hb); have n1_ := Aside0.mk (below_step (by repeat (first | (with_reducible first | exact HB.out | apply below_alloc | apply pw_below_drewN | apply below_drew1 | refine below_set ?_ GE203.out) | exact HB.out)) hb); have n2_ := Aside0.mk (hbox); have n3_ := Aside0.mk ((by rw [hg]; exact (below_size (by repeat (first | (with_reducible first | exact HB.out | apply below_alloc | apply pw_below_drewN | apply below_drew1 | refine below_set ?_ GE203.out) | exact HB.out))) : w.heap.size ≤ gb204)); have n4_ := Aside0.mk ((by rw [hg]; exact (below_size (by repeat (first | (with_reducible first | exact HB.out | apply below_alloc | apply pw_below_drewN | apply below_drew1 | refine below_set ?_ GE203.out) | exact HB.out))) : w.heap.size ≤ gb204)); have n5_ := Aside0.mk ((by rw [hg]; exact Nat.ne_of_lt (blk_lt (g := gb203) (o := .cells #[.int .u8 a0_0, .int .i64 a0_1, .int .u8 a0_2, .int .u32 a0_3, .bool a0_4, .int .u8 a0_5, .int .u8 a0_6, .slice A0_7 l0_7.length c0_7, .slice A0_8 l0_8.length c0_8] 27 (0, 0)) (by (with_reducible repeat (first | refine blk_drewN ?_ _ | refine blk_drew ?_ | refine blk_alloc ?_ _)); exact BK203.out)) : gb203 ≠ gb204)); have n6_ := Aside0.mk ((by rw [hg]; exact Nat.ne_of_gt (blk_lt (g := gb203) (o := .cells #[.int .u8 a0_0, .int .i64 a0_1, .int .u8 a0_2, .int .u32 a0_3, .bool a0_4, .int .u8 a0_5, .int .u8 a0_6, .slice A0_7 l0_7.length c0_7, .slice A0_8 l0_8.length c0_8] 27 (0, 0)) (by (with_reducible repeat (first | refine blk_drewN ?_ _ | refine blk_drew ?_ | refine blk_alloc ?_ _)); exact BK203.out)) : gb204 ≠ gb203)); clear BK203; clear HB; have BK203 := n0_; have HB := n1_; have BK204 := n2_; have GW204 := n3_; have GE204 := n4_; have NB203_204 := n5_; have NB204_203 := n6_; clear n0_ n1_ n2_ n3_ n4_ n5_ n6_; clear hb hbox hg))
  (try simp only [Act.put, List.setIfInBounds_toArray, List.set_cons_zero, List.set_cons_succ])
  go_cut [5] (fun v5 wc => ∃ (kq : Nat) (x5_2 : Bool), v5 = .bool x5_2 ∧ Aside0 (stolonref05_Same.j0 kq x5_2 a0_0 a0_1 a0_2 a0_3 a0_4 a0_5 a0_6 l0_7 l0_8 a1_0 a1_1 a1_2 a1_3 a1_4 a1_5 a1_6 l1_7 l1_8 = some r) ∧ Aside0 (kq ≤ k) ∧ Aside0 (wc.heap[gb203]? = some (.cells #[.int .u8 a0_0, .int .i64 a0_1, .int .u8 a0_2, .int .u32 a0_3, .bool a0_4, .int .u8 a0_5, .int .u8 a0_6, (.slice A0_7 l0_7.length c0_7), (.slice A0_8 l0_8.length c0_8)] 27 (0, 0))) ∧ Aside0 (wc.heap[gb204]? = some (.cells #[.int .u8 a1_0, .int .i64 a1_1, .int .u8 a1_2, .int .u32 a1_3, .bool a1_4, .int .u8 a1_5, .int .u8 a1_6, (.slice A1_7 l1_7.length c1_7), (.slice A1_8 l1_8.length c1_8)] 27 (0, 0))) ∧ Aside0 (Below w.heap.size w wc))
  case first =>
    have H := HC3.out
    clear HC3
    by_cases c6 : a0_0 = a1_0
    · rw [if_pos c6] at H
      have c6b0 : (a0_0 == a1_0) = true := beq_iff_eq.mpr c6
      have c6b1 : (a0_0 != a1_0) = false := bne_eq_false_iff_eq.mpr c6
      clear c6
      (first | rw [c6b0] | (simp only [i64_w, i32_w]; rw [c6b0]) | skip)
      by_cases c7 : a0_1 = a1_1
      · rw [if_pos c7] at H
        have c7b0 : (a0_1 == a1_1) = true := beq_iff_eq.mpr c7
        have c7b1 : (a0_1 != a1_1) = false := bne_eq_false_iff_eq.mpr c7
        clear c7
        by_cases c8 : a0_2 = a1_2
        · rw [if_pos c8] at H
          have c8b0 : (a0_2 == a1_2) = true := beq_iff_eq.mpr c8
          have c8b1 : (a0_2 != a1_2) = false := bne_eq_false_iff_eq.mpr c8
          clear c8
          have H' := Aside0.mk H
          clear H
          have hnb9 := NB203_204.out
          have hnc9 := NB204_203.out
          have hcz10_0 : w5.cell? ⟨gb203, 0, none⟩ = some (.int .u8 a0_0) := (blk_cell BK203.out 0).trans rfl
          have hcz10_1 : w5.cell? ⟨gb203, 1, none⟩ = some (.int .i64 a0_1) := (blk_cell BK203.out 1).trans rfl
          have hcz10_2 : w5.cell? ⟨gb203, 2, none⟩ = some (.int .u8 a0_2) := (blk_cell BK203.out 2).trans rfl
          have hcz10_3 : w5.cell? ⟨gb203, 3, none⟩ = some (.int .u32 a0_3) := (blk_cell BK203.out 3).trans rfl
          have hcz10_4 : w5.cell? ⟨gb203, 4, none⟩ = some (.bool a0_4) := (blk_cell BK203.out 4).trans rfl
          have hcz10_5 : w5.cell? ⟨gb203, 5, none⟩ = some (.int .u8 a0_5) := (blk_cell BK203.out 5).trans rfl
          have hcz10_6 : w5.cell? ⟨gb203, 6, none⟩ = some (.int .u8 a0_6) := (blk_cell BK203.out 6).trans rfl
          have hcz10_7 : w5.cell? ⟨gb203, 7, none⟩ = some (.slice A0_7 l0_7.length c0_7) := (blk_cell BK203.out 7).trans rfl
          have hcz10_8 : w5.cell? ⟨gb203, 8, none⟩ = some (.slice A0_8 l0_8.length c0_8) := (blk_cell BK203.out 8).trans rfl
          have hfz10_0 := blk_frozen BK203.out 0
          have hfz10_1 := blk_frozen BK203.out 1
          have hfz10_2 := blk_frozen BK203.out 2
          have hfz10_3 := blk_frozen BK203.out 3
          have hfz10_4 := blk_frozen BK203.out 4
          have hfz10_5 := blk_frozen BK203.out 5
          have hfz10_6 := blk_frozen BK203.out 6
          have hfz10_7 := blk_frozen BK203.out 7
          have hfz10_8 := blk_frozen BK203.out 8
          have hcz11_0 : w5.cell? ⟨gb204, 0, none⟩ = some (.int .u8 a1_0) := (blk_cell BK204.out 0).trans rfl
          have hcz11_1 : w5.cell? ⟨gb204, 1, none⟩ = some (.int .i64 a1_1) := (blk_cell BK204.out 1).trans rfl
          have hcz11_2 : w5.cell? ⟨gb204, 2, none⟩ = some (.int .u8 a1_2) := (blk_cell BK204.out 2).trans rfl
          have hcz11_3 : w5.cell? ⟨gb204, 3, none⟩ = some (.int .u32 a1_3) := (blk_cell BK204.out 3).trans rfl
          have hcz11_4 : w5.cell? ⟨gb204, 4, none⟩ = some (.bool a1_4) := (blk_cell BK204.out 4).trans rfl
          have hcz11_5 : w5.cell? ⟨gb204, 5, none⟩ = some (.int .u8 a1_5) := (blk_cell BK204.out 5).trans rfl
          have hcz11_6 : w5.cell? ⟨gb204, 6, none⟩ = some (.int .u8 a1_6) := (blk_cell BK204.out 6).trans rfl
          have hcz11_7 : w5.cell? ⟨gb204, 7, none⟩ = some (.slice A1_7 l1_7.length c1_7) := (blk_cell BK204.out 7).trans rfl
          have hcz11_8 : w5.cell? ⟨gb204, 8, none⟩ = some (.slice A1_8 l1_8.length c1_8) := (blk_cell BK204.out 8).trans rfl
          have hfz11_0 := blk_frozen BK204.out 0
          have hfz11_1 := blk_frozen BK204.out 1
          have hfz11_2 := blk_frozen BK204.out 2
          have hfz11_3 := blk_frozen BK204.out 3
          have hfz11_4 := blk_frozen BK204.out 4
          have hfz11_5 := blk_frozen BK204.out 5
          have hfz11_6 := blk_frozen BK204.out 6
          have hfz11_7 := blk_frozen BK204.out 7
          have hfz11_8 := blk_frozen BK204.out 8
          go_wp2
          go_meet
          case rel => exact ⟨_, ((a0_3 == a1_3)), (by first | rfl | (simp; done) | (simp [*]; done)), H', ⟨by first | omega | exact Nat.le_refl _⟩, ⟨by (with_reducible repeat (first | refine blk_drewN ?_ _ | refine blk_drew ?_ | refine blk_alloc ?_ _)); exact BK203.out⟩, ⟨by (with_reducible repeat (first | refine blk_drewN ?_ _ | refine blk_drew ?_ | refine blk_alloc ?_ _)); exact BK204.out⟩, ⟨by repeat (first | (with_reducible first | exact HB.out | apply below_alloc | apply pw_below_drewN | apply below_drew1 | refine below_set ?_ GE203.out | refine below_set ?_ GE204.out) | exact HB.out)⟩⟩
        · rw [if_neg c8] at H
          have c8b0 : (a0_2 == a1_2) = false := beq_eq_false_iff_ne.mpr c8
          have c8b1 : (a0_2 != a1_2) = true := bne_iff_ne.mpr c8
          have H' := Aside0.mk H
          clear H
          have hnb12 := NB203_204.out
          have hnc12 := NB204_203.out
          have hcz13_0 : w5.cell? ⟨gb203, 0, none⟩ = some (.int .u8 a0_0) := (blk_cell BK203.out 0).trans rfl
          have hcz13_1 : w5.cell? ⟨gb203, 1, none⟩ = some (.int .i64 a0_1) := (blk_cell BK203.out 1).trans rfl
          have hcz13_2 : w5.cell? ⟨gb203, 2, none⟩ = some (.int .u8 a0_2) := (blk_cell BK203.out 2).trans rfl
          have hcz13_3 : w5.cell? ⟨gb203, 3, none⟩ = some (.int .u32 a0_3) := (blk_cell BK203.out 3).trans rfl
          have hcz13_4 : w5.cell? ⟨gb203, 4, none⟩ = some (.bool a0_4) := (blk_cell BK203.out 4).trans rfl
          have hcz13_5 : w5.cell? ⟨gb203, 5, none⟩ = some (.int .u8 a0_5) := (blk_cell BK203.out 5).trans rfl
          have hcz13_6 : w5.cell? ⟨gb203, 6, none⟩ = some (.int .u8 a0_6) := (blk_cell BK203.out 6).trans rfl
          have hcz13_7 : w5.cell? ⟨gb203, 7, none⟩ = some (.slice A0_7 l0_7.length c0_7) := (blk_cell BK203.out 7).trans rfl
          have hcz13_8 : w5.cell? ⟨gb203, 8, none⟩ = some (.slice A0_8 l0_8.length c0_8) := (blk_cell BK203.out 8).trans rfl
          have hfz13_0 := blk_frozen BK203.out 0
          have hfz13_1 := blk_frozen BK203.out 1
          have hfz13_2 := blk_frozen BK203.out 2
          have hfz13_3 := blk_frozen BK203.out 3
          have hfz13_4 := blk_frozen BK203.out 4
          have hfz13_5 := blk_frozen BK203.out 5
          have hfz13_6 := blk_frozen BK203.out 6
          have hfz13_7 := blk_frozen BK203.out 7
          have hfz13_8 := blk_frozen BK203.out 8
          have hcz14_0 : w5.cell? ⟨gb204, 0, none⟩ = some (.int .u8 a1_0) := (blk_cell BK204.out 0).trans rfl
          have hcz14_1 : w5.cell? ⟨gb204, 1, none⟩ = some (.int .i64 a1_1) := (blk_cell BK204.out 1).trans rfl
          have hcz14_2 : w5.cell? ⟨gb204, 2, none⟩ = some (.int .u8 a1_2) := (blk_cell BK204.out 2).trans rfl
          have hcz14_3 : w5.cell? ⟨gb204, 3, none⟩ = some (.int .u32 a1_3) := (blk_cell BK204.out 3).trans rfl
          have hcz14_4 : w5.cell? ⟨gb204, 4, none⟩ = some (.bool a1_4) := (blk_cell BK204.out 4).trans rfl
          have hcz14_5 : w5.cell? ⟨gb204, 5, none⟩ = some (.int .u8 a1_5) := (blk_cell BK204.out 5).trans rfl
          have hcz14_6 : w5.cell? ⟨gb204, 6, none⟩ = some (.int .u8 a1_6) := (blk_cell BK204.out 6).trans rfl
          have hcz14_7 : w5.cell? ⟨gb204, 7, none⟩ = some (.slice A1_7 l1_7.length c1_7) := (blk_cell BK204.out 7).trans rfl
          have hcz14_8 : w5.cell? ⟨gb204, 8, none⟩ = some (.slice A1_8 l1_8.length c1_8) := (blk_cell BK204.out 8).trans rfl
          have hfz14_0 := blk_frozen BK204.out 0
          have hfz14_1 := blk_frozen BK204.out 1
          have hfz14_2 := blk_frozen BK204.out 2
          have hfz14_3 := blk_frozen BK204.out 3
          have hfz14_4 := blk_frozen BK204.out 4
          have hfz14_5 := blk_frozen BK204.out 5
          have hfz14_6 := blk_frozen BK204.out 6
          have hfz14_7 := blk_frozen BK204.out 7
          have hfz14_8 := blk_frozen BK204.out 8
          go_wp2
          go_meet
          case rel => exact ⟨_, (false), (by first | rfl | (simp; done) | (simp [*]; done)), H', ⟨by first | omega | exact Nat.le_refl _⟩, ⟨by (with_reducible repeat (first | refine blk_drewN ?_ _ | refine blk_drew ?_ | refine blk_alloc ?_ _)); exact BK203.out⟩, ⟨by (with_reducible repeat (first | refine blk_drewN ?_ _ | refine blk_drew ?_ | refine blk_alloc ?_ _)); exact BK204.out⟩, ⟨by repeat (first | (with_reducible first | exact HB.out | apply below_alloc | apply pw_below_drewN | apply below_drew1 | refine below_set ?_ GE203.out | refine below_set ?_ GE204.out) | exact HB.out)⟩⟩
      · rw [if_neg c7] at H
        have c7b0 : (a0_1 == a1_1) = false := beq_eq_false_iff_ne.mpr c7
        have c7b1 : (a0_1 != a1_1) = true := bne_iff_ne.mpr c7
        have H' := Aside0.mk H
        clear H
        have hnb15 := NB203_204.out
        have hnc15 := NB204_203.out
        have hcz16_0 : w5.cell? ⟨gb203, 0, none⟩ = some (.int .u8 a0_0) := (blk_cell BK203.out 0).trans rfl
        have hcz16_1 : w5.cell? ⟨gb203, 1, none⟩ = some (.int .i64 a0_1) := (blk_cell BK203.out 1).trans rfl
        have hcz16_2 : w5.cell? ⟨gb203, 2, none⟩ = some (.int .u8 a0_2) := (blk_cell BK203.out 2).trans rfl
        have hcz16_3 : w5.cell? ⟨gb203, 3, none⟩ = some (.int .u32 a0_3) := (blk_cell BK203.out 3).trans rfl
        have hcz16_4 : w5.cell? ⟨gb203, 4, none⟩ = some (.bool a0_4) := (blk_cell BK203.out 4).trans rfl
        have hcz16_5 : w5.cell? ⟨gb203, 5, none⟩ = some (.int .u8 a0_5) := (blk_cell BK203.out 5).trans rfl
        have hcz16_6 : w5.cell? ⟨gb203, 6, none⟩ = some (.int .u8 a0_6) := (blk_cell BK203.out 6).trans rfl
        have hcz16_7 : w5.cell? ⟨gb203, 7, none⟩ = some (.slice A0_7 l0_7.length c0_7) := (blk_cell BK203.out 7).trans rfl
        have hcz16_8 : w5.cell? ⟨gb203, 8, none⟩ = some (.slice A0_8 l0_8.length c0_8) := (blk_cell BK203.out 8).trans rfl
        have hfz16_0 := blk_frozen BK203.out 0
        have hfz16_1 := blk_frozen BK203.out 1
        have hfz16_2 := blk_frozen BK203.out 2
        have hfz16_3 := blk_frozen BK203.out 3
        have hfz16_4 := blk_frozen BK203.out 4
        have hfz16_5 := blk_frozen BK203.out 5
        have hfz16_6 := blk_frozen BK203.out 6
        have hfz16_7 := blk_frozen BK203.out 7
        have hfz16_8 := blk_frozen BK203.out 8
        have hcz17_0 : w5.cell? ⟨gb204, 0, none⟩ = some (.int .u8 a1_0) := (blk_cell BK204.out 0).trans rfl
        have hcz17_1 : w5.cell? ⟨gb204, 1, none⟩ = some (.int .i64 a1_1) := (blk_cell BK204.out 1).trans rfl
        have hcz17_2 : w5.cell? ⟨gb204, 2, none⟩ = some (.int .u8 a1_2) := (blk_cell BK204.out 2).trans rfl
        have hcz17_3 : w5.cell? ⟨gb204, 3, none⟩ = some (.int .u32 a1_3) := (blk_cell BK204.out 3).trans rfl
        have hcz17_4 : w5.cell? ⟨gb204, 4, none⟩ = some (.bool a1_4) := (blk_cell BK204.out 4).trans rfl
        have hcz17_5 : w5.cell? ⟨gb204, 5, none⟩ = some (.int .u8 a1_5) := (blk_cell BK204.out 5).trans rfl
        have hcz17_6 : w5.cell? ⟨gb204, 6, none⟩ = some (.int .u8 a1_6) := (blk_cell BK204.out 6).trans rfl
        have hcz17_7 : w5.cell? ⟨gb204, 7, none⟩ = some (.slice A1_7 l1_7.length c1_7) := (blk_cell BK204.out 7).trans rfl
        have hcz17_8 : w5.cell? ⟨gb204, 8, none⟩ = some (.slice A1_8 l1_8.length c1_8) := (blk_cell BK204.out 8).trans rfl
        have hfz17_0 := blk_frozen BK204.out 0
        have hfz17_1 := blk_frozen BK204.out 1
        have hfz17_2 := blk_frozen BK204.out 2
        have hfz17_3 := blk_frozen BK204.out 3
        have hfz17_4 := blk_frozen BK204.out 4
        have hfz17_5 := blk_frozen BK204.out 5
        have hfz17_6 := blk_frozen BK204.out 6
        have hfz17_7 := blk_frozen BK204.out 7
        have hfz17_8 := blk_frozen BK204.out 8
        go_wp2
        go_meet
        case rel => exact ⟨_, (false), (by first | rfl | (simp; done) | (simp [*]; done)), H', ⟨by first | omega | exact Nat.le_refl _⟩, ⟨by (with_reducible repeat (first | refine blk_drewN ?_ _ | refine blk_drew ?_ | refine blk_alloc ?_ _)); exact BK203.out⟩, ⟨by (with_reducible repeat (first | refine blk_drewN ?_ _ | refine blk_drew ?_ | refine blk_alloc ?_ _)); exact BK204.out⟩, ⟨by repeat (first | (with_reducible first | exact HB.out | apply below_alloc | apply pw_below_drewN | apply below_drew1 | refine below_set ?_ GE203.out | refine below_set ?_ GE204.out) | exact HB.out)⟩⟩
    · rw [if_neg c6] at H
      have c6b0 : (a0_0 == a1_0) = false := beq_eq_false_iff_ne.mpr c6
      have c6b1 : (a0_0 != a1_0) = true := bne_iff_ne.mpr c6
      (first | rw [c6b0] | (simp only [i64_w, i32_w]; rw [c6b0]) | skip)
      have H' := Aside0.mk H
      clear H
      have hnb18 := NB203_204.out
      have hnc18 := NB204_203.out
      have hcz19_0 : w5.cell? ⟨gb203, 0, none⟩ = some (.int .u8 a0_0) := (blk_cell BK203.out 0).trans rfl
      have hcz19_1 : w5.cell? ⟨gb203, 1, none⟩ = some (.int .i64 a0_1) := (blk_cell BK203.out 1).trans rfl
      have hcz19_2 : w5.cell? ⟨gb203, 2, none⟩ = some (.int .u8 a0_2) := (blk_cell BK203.out 2).trans rfl
      have hcz19_3 : w5.cell? ⟨gb203, 3, none⟩ = some (.int .u32 a0_3) := (blk_cell BK203.out 3).trans rfl
      have hcz19_4 : w5.cell? ⟨gb203, 4, none⟩ = some (.bool a0_4) := (blk_cell BK203.out 4).trans rfl
      have hcz19_5 : w5.cell? ⟨gb203, 5, none⟩ = some (.int .u8 a0_5) := (blk_cell BK203.out 5).trans rfl
      have hcz19_6 : w5.cell? ⟨gb203, 6, none⟩ = some (.int .u8 a0_6) := (blk_cell BK203.out 6).trans rfl
      have hcz19_7 : w5.cell? ⟨gb203, 7, none⟩ = some (.slice A0_7 l0_7.length c0_7) := (blk_cell BK203.out 7).trans rfl
      have hcz19_8 : w5.cell? ⟨gb203, 8, none⟩ = some (.slice A0_8 l0_8.length c0_8) := (blk_cell BK203.out 8).trans rfl
      have hfz19_0 := blk_frozen BK203.out 0
      have hfz19_1 := blk_frozen BK203.out 1
      have hfz19_2 := blk_frozen BK203.out 2
      have hfz19_3 := blk_frozen BK203.out 3
      have hfz19_4 := blk_frozen BK203.out 4
      have hfz19_5 := blk_frozen BK203.out 5
      have hfz19_6 := blk_frozen BK203.out 6
      have hfz19_7 := blk_frozen BK203.out 7
      have hfz19_8 := blk_frozen BK203.out 8
      have hcz20_0 : w5.cell? ⟨gb204, 0, none⟩ = some (.int .u8 a1_0) := (blk_cell BK204.out 0).trans rfl
      have hcz20_1 : w5.cell? ⟨gb204, 1, none⟩ = some (.int .i64 a1_1) := (blk_cell BK204.out 1).trans rfl
      have hcz20_2 : w5.cell? ⟨gb204, 2, none⟩ = some (.int .u8 a1_2) := (blk_cell BK204.out 2).trans rfl
      have hcz20_3 : w5.cell? ⟨gb204, 3, none⟩ = some (.int .u32 a1_3) := (blk_cell BK204.out 3).trans rfl
      have hcz20_4 : w5.cell? ⟨gb204, 4, none⟩ = some (.bool a1_4) := (blk_cell BK204.out 4).trans rfl
      have hcz20_5 : w5.cell? ⟨gb204, 5, none⟩ = some (.int .u8 a1_5) := (blk_cell BK204.out 5).trans rfl
      have hcz20_6 : w5.cell? ⟨gb204, 6, none⟩ = some (.int .u8 a1_6) := (blk_cell BK204.out 6).trans rfl
      have hcz20_7 : w5.cell? ⟨gb204, 7, none⟩ = some (.slice A1_7 l1_7.length c1_7) := (blk_cell BK204.out 7).trans rfl
      have hcz20_8 : w5.cell? ⟨gb204, 8, none⟩ = some (.slice A1_8 l1_8.length c1_8) := (blk_cell BK204.out 8).trans rfl
      have hfz20_0 := blk_frozen BK204.out 0
      have hfz20_1 := blk_frozen BK204.out 1
      have hfz20_2 := blk_frozen BK204.out 2
      have hfz20_3 := blk_frozen BK204.out 3
      have hfz20_4 := blk_frozen BK204.out 4
      have hfz20_5 := blk_frozen BK204.out 5
      have hfz20_6 := blk_frozen BK204.out 6
      have hfz20_7 := blk_frozen BK204.out 7
      have hfz20_8 := blk_frozen BK204.out 8
      go_wp2
      go_meet
      case rel => exact ⟨_, (false), (by first | rfl | (simp; done) | (simp [*]; done)), H', ⟨by first | omega | exact Nat.le_refl _⟩, ⟨by (with_reducible repeat (first | refine blk_drewN ?_ _ | refine blk_drew ?_ | refine blk_alloc ?_ _)); exact BK203.out⟩, ⟨by (with_reducible repeat (first | refine blk_drewN ?_ _ | refine blk_drew ?_ | refine blk_alloc ?_ _)); exact BK204.out⟩, ⟨by repeat (first | (with_reducible first | exact HB.out | apply below_alloc | apply pw_below_drewN | apply below_drew1 | refine below_set ?_ GE203.out | refine below_set ?_ GE204.out) | exact HB.out)⟩⟩
  case rest =>
    clear HC3
    try clear c1
    try clear p2
    try clear c6
    try clear c6b0
    try clear c6b1
    try clear c7
    try clear c7b0
    try clear c7b1
    try clear c8
    try clear c8b0
    try clear c8b1
    try clear c9
    try clear c12
    try clear c13
    try clear c15
    try clear c18
    try clear hcz10_0
    try clear hcz10_1
    try clear hcz10_2
    try clear hcz10_3
    try clear hcz10_4
    try clear hcz10_5
    try clear hcz10_6
    try clear hcz10_7
    try clear hcz10_8
    try clear hcz11_0
    try clear hcz11_1
    try clear hcz11_2
    try clear hcz11_3
    try clear hcz11_4
    try clear hcz11_5
    try clear hcz11_6
    try clear hcz11_7
    try clear hcz11_8
    try clear hcz13_0
    try clear hcz13_1
    try clear hcz13_2
    try clear hcz13_3
    try clear hcz13_4
    try clear hcz13_5
    try clear hcz13_6
    try clear hcz13_7
    try clear hcz13_8
    try clear hcz14_0
    try clear hcz14_1
    try clear hcz14_2
    try clear hcz14_3
    try clear hcz14_4
    try clear hcz14_5
    try clear hcz14_6
    try clear hcz14_7
    try clear hcz14_8
    try clear hcz16_0
    try clear hcz16_1
    try clear hcz16_2
    try clear hcz16_3
    try clear hcz16_4
    try clear hcz16_5
    try clear hcz16_6
    try clear hcz16_7
    try clear hcz16_8
    try clear hcz17_0
    try clear hcz17_1
    try clear hcz17_2
    try clear hcz17_3
    try clear hcz17_4
    try clear hcz17_5
    try clear hcz17_6
    try clear hcz17_7
    try clear hcz17_8
    try clear hcz19_0
    try clear hcz19_1
    try clear hcz19_2
    try clear hcz19_3
    try clear hcz19_4
    try clear hcz19_5
    try clear hcz19_6
    try clear hcz19_7
    try clear hcz19_8
    try clear hcz20_0
    try clear hcz20_1
    try clear hcz20_2
    try clear hcz20_3
    try clear hcz20_4
    try clear hcz20_5
    try clear hcz20_6
    try clear hcz20_7
    try clear hcz20_8
    try clear hfz10_0
    try clear hfz10_1
    try clear hfz10_2
    try clear hfz10_3
    try clear hfz10_4
    try clear hfz10_5
    try clear hfz10_6
    try clear hfz10_7
    try clear hfz10_8
    try clear hfz11_0
    try clear hfz11_1
    try clear hfz11_2
    try clear hfz11_3
    try clear hfz11_4
    try clear hfz11_5
    try clear hfz11_6
    try clear hfz11_7
    try clear hfz11_8
    try clear hfz13_0
    try clear hfz13_1
    try clear hfz13_2
    try clear hfz13_3
    try clear hfz13_4
    try clear hfz13_5
    try clear hfz13_6
    try clear hfz13_7
    try clear hfz13_8
    try clear hfz14_0
    try clear hfz14_1
    try clear hfz14_2
    try clear hfz14_3
    try clear hfz14_4
    try clear hfz14_5
    try clear hfz14_6
    try clear hfz14_7
    try clear hfz14_8
    try clear hfz16_0
    try clear hfz16_1
    try clear hfz16_2
    try clear hfz16_3
    try clear hfz16_4
    try clear hfz16_5
    try clear hfz16_6
    try clear hfz16_7
    try clear hfz16_8
    try clear hfz17_0
    try clear hfz17_1
    try clear hfz17_2
    try clear hfz17_3
    try clear hfz17_4
    try clear hfz17_5
    try clear hfz17_6
    try clear hfz17_7
    try clear hfz17_8
    try clear hfz19_0
    try clear hfz19_1
    try clear hfz19_2
    try clear hfz19_3
    try clear hfz19_4
    try clear hfz19_5
    try clear hfz19_6
    try clear hfz19_7
    try clear hfz19_8
    try clear hfz20_0
    try clear hfz20_1
    try clear hfz20_2
    try clear hfz20_3
    try clear hfz20_4
    try clear hfz20_5
    try clear hfz20_6
    try clear hfz20_7
    try clear hfz20_8
    obtain ⟨kq, x5_2, rfl, HA, HJ2, BK203, BK204, HB⟩ := hcut
    cases kq with
    | zero => exact absurd HA.out (by simp [stolonref05_Same.j0])
    | succ kj2 =>
      have H := HA.out
      clear HA
      simp only [stolonref05_Same.j0] at H
      by_cases c21 : x5_2 = true
      · subst c21
        have H1 : (if (a0_4 == a1_4) = true then (if a0_5 = a1_5 then (if a0_6 = a1_6 then ((stolonref01_Rows.f kj2 l0_7 l1_7).bind fun t205 => (if t205 = true then ((stolonref05_Recs.f kj2 l0_8 l1_8).bind fun t206 => (some t206)) else (some false))) else (some false)) else (some false)) else (some false)) = some r := by rw [if_pos rfl] at H; exact H
        clear H
        have H := H1
        clear H1
        by_cases c22 : (a0_4 == a1_4) = true
        · rw [if_pos c22] at H
          have c22b0 : (a0_4 == a1_4) = true := c22
          (try (have c22b1 : decide (a0_4 = a1_4) = true := by simpa using c22))
          (try (have c22b2 : (a0_4 == a1_4) = true := by simpa using c22))
          clear c22
          by_cases c23 : a0_5 = a1_5
          · rw [if_pos c23] at H
            have c23b0 : (a0_5 == a1_5) = true := beq_iff_eq.mpr c23
            have c23b1 : (a0_5 != a1_5) = false := bne_eq_false_iff_eq.mpr c23
            clear c23
            by_cases c24 : a0_6 = a1_6
            · rw [if_pos c24] at H
              have c24b0 : (a0_6 == a1_6) = true := beq_iff_eq.mpr c24
              have c24b1 : (a0_6 != a1_6) = false := bne_eq_false_iff_eq.mpr c24
              clear c24
              replace H := Option.bind_eq_some_iff.mp H
              obtain ⟨t205, A250, H⟩ := H
              replace H : (if t205 = true then ((stolonref05_Recs.f kj2 l0_8 l1_8).bind fun t206 => (some t206)) else (some false)) = some r := H
              have A25 := Aside0.mk A250
              clear A250
              by_cases c26 : t205 = true
              · subst c26
                have H1 : ((stolonref05_Recs.f kj2 l0_8 l1_8).bind fun t206 => (some t206)) = some r := by rw [if_pos rfl] at H; exact H
                clear H
                have H := H1
                clear H1
                replace H := Option.bind_eq_some_iff.mp H
                obtain ⟨t206, A270, H⟩ := H
                replace H : (some t206) = some r := H
                have A27 := Aside0.mk A270
                clear A270
                obtain rfl := Option.some.inj H
                have hnb28 := NB203_204.out
                have hnc28 := NB204_203.out
                have hcz29_0 : wc.cell? ⟨gb203, 0, none⟩ = some (.int .u8 a0_0) := (blk_cell BK203.out 0).trans rfl
                have hcz29_1 : wc.cell? ⟨gb203, 1, none⟩ = some (.int .i64 a0_1) := (blk_cell BK203.out 1).trans rfl
                have hcz29_2 : wc.cell? ⟨gb203, 2, none⟩ = some (.int .u8 a0_2) := (blk_cell BK203.out 2).trans rfl
                have hcz29_3 : wc.cell? ⟨gb203, 3, none⟩ = some (.int .u32 a0_3) := (blk_cell BK203.out 3).trans rfl
                have hcz29_4 : wc.cell? ⟨gb203, 4, none⟩ = some (.bool a0_4) := (blk_cell BK203.out 4).trans rfl
                have hcz29_5 : wc.cell? ⟨gb203, 5, none⟩ = some (.int .u8 a0_5) := (blk_cell BK203.out 5).trans rfl
                have hcz29_6 : wc.cell? ⟨gb203, 6, none⟩ = some (.int .u8 a0_6) := (blk_cell BK203.out 6).trans rfl
                have hcz29_7 : wc.cell? ⟨gb203, 7, none⟩ = some (.slice A0_7 l0_7.length c0_7) := (blk_cell BK203.out 7).trans rfl
                have hcz29_8 : wc.cell? ⟨gb203, 8, none⟩ = some (.slice A0_8 l0_8.length c0_8) := (blk_cell BK203.out 8).trans rfl
                have hfz29_0 := blk_frozen BK203.out 0
                have hfz29_1 := blk_frozen BK203.out 1
                have hfz29_2 := blk_frozen BK203.out 2
                have hfz29_3 := blk_frozen BK203.out 3
                have hfz29_4 := blk_frozen BK203.out 4
                have hfz29_5 := blk_frozen BK203.out 5
                have hfz29_6 := blk_frozen BK203.out 6
                have hfz29_7 := blk_frozen BK203.out 7
                have hfz29_8 := blk_frozen BK203.out 8
                have hcz30_0 : wc.cell? ⟨gb204, 0, none⟩ = some (.int .u8 a1_0) := (blk_cell BK204.out 0).trans rfl
                have hcz30_1 : wc.cell? ⟨gb204, 1, none⟩ = some (.int .i64 a1_1) := (blk_cell BK204.out 1).trans rfl
                have hcz30_2 : wc.cell? ⟨gb204, 2, none⟩ = some (.int .u8 a1_2) := (blk_cell BK204.out 2).trans rfl
                have hcz30_3 : wc.cell? ⟨gb204, 3, none⟩ = some (.int .u32 a1_3) := (blk_cell BK204.out 3).trans rfl
                have hcz30_4 : wc.cell? ⟨gb204, 4, none⟩ = some (.bool a1_4) := (blk_cell BK204.out 4).trans rfl
                have hcz30_5 : wc.cell? ⟨gb204, 5, none⟩ = some (.int .u8 a1_5) := (blk_cell BK204.out 5).trans rfl
                have hcz30_6 : wc.cell? ⟨gb204, 6, none⟩ = some (.int .u8 a1_6) := (blk_cell BK204.out 6).trans rfl
                have hcz30_7 : wc.cell? ⟨gb204, 7, none⟩ = some (.slice A1_7 l1_7.length c1_7) := (blk_cell BK204.out 7).trans rfl
                have hcz30_8 : wc.cell? ⟨gb204, 8, none⟩ = some (.slice A1_8 l1_8.length c1_8) := (blk_cell BK204.out 8).trans rfl
                have hfz30_0 := blk_frozen BK204.out 0
                have hfz30_1 := blk_frozen BK204.out 1
                have hfz30_2 := blk_frozen BK204.out 2
                have hfz30_3 := blk_frozen BK204.out 3
                have hfz30_4 := blk_frozen BK204.out 4
                have hfz30_5 := blk_frozen BK204.out 5
                have hfz30_6 := blk_frozen BK204.out 6
                have hfz30_7 := blk_frozen BK204.out 7
                have hfz30_8 := blk_frozen BK204.out 8
                go_wp2_with (first | (go_at_call 32; (with_reducible refine (stolonref01_Rows.calls kj2 _ _ l0_7 _ _ l1_7 true _ ?side1 ?side2 ?side3 ?side4 A25.out).mono ?_); (case side1 => repeat (first | exact (Kd.C_below HR0_7.out HB.out) | (with_reducible refine Kd.C_alloc ?_ _) | (with_reducible refine Kd.C_drewN ?_ _) | (with_reducible refine Kd.C_drew ?_))); (case side2 => exact HC0_7.out); (case side3 => repeat (first | exact (Kd.C_below HR1_7.out HB.out) | (with_reducible refine Kd.C_alloc ?_ _) | (with_reducible refine Kd.C_drewN ?_ _) | (with_reducible refine Kd.C_drew ?_))); (case side4 => exact HC1_7.out); rintro e w' ⟨rfl, ⟨nd, rfl⟩⟩) | (go_at_call 33; (with_reducible refine (stolonref05_Recs.calls kj2 _ _ l0_8 _ _ l1_8 t206 _ ?side1 ?side2 ?side3 ?side4 A27.out).mono ?_); (case side1 => repeat (first | exact (Kd.C_below HR0_8.out (by repeat (first | (with_reducible first | exact HB.out | apply below_alloc | apply pw_below_drewN | apply below_drew1 | refine below_set ?_ GE203.out | refine below_set ?_ GE204.out) | exact HB.out))) | (with_reducible refine Kd.C_alloc ?_ _) | (with_reducible refine Kd.C_drewN ?_ _) | (with_reducible refine Kd.C_drew ?_))); (case side2 => exact HC0_8.out); (case side3 => repeat (first | exact (Kd.C_below HR1_8.out (by repeat (first | (with_reducible first | exact HB.out | apply below_alloc | apply pw_below_drewN | apply below_drew1 | refine below_set ?_ GE203.out | refine below_set ?_ GE204.out) | exact HB.out))) | (with_reducible refine Kd.C_alloc ?_ _) | (with_reducible refine Kd.C_drewN ?_ _) | (with_reducible refine Kd.C_drew ?_))); (case side4 => exact HC1_8.out); rintro e w31 ⟨rfl, hb⟩; have n0_ := Aside0.mk (blk_below (g := gb203) (o := .cells #[.int .u8 a0_0, .int .i64 a0_1, .int .u8 a0_2, .int .u32 a0_3, .bool a0_4, .int .u8 a0_5, .int .u8 a0_6, .slice A0_7 l0_7.length c0_7, .slice A0_8 l0_8.length c0_8] 27 (0, 0)) (by (with_reducible repeat (first | refine blk_drewN ?_ _ | refine blk_drew ?_ | refine blk_alloc ?_ _)); exact BK203.out) hb); have n1_ := Aside0.mk (blk_below (g := gb204) (o := .cells #[.int .u8 a1_0, .int .i64 a1_1, .int .u8 a1_2, .int .u32 a1_3, .bool a1_4, .int .u8 a1_5, .int .u8 a1_6, .slice A1_7 l1_7.length c1_7, .slice A1_8 l1_8.length c1_8] 27 (0, 0)) (by (with_reducible repeat (first | refine blk_drewN ?_ _ | refine blk_drew ?_ | refine blk_alloc ?_ _)); exact BK204.out) hb); have n2_ := Aside0.mk (below_step (by repeat (first | (with_reducible first | exact HB.out | apply below_alloc | apply pw_below_drewN | apply below_drew1 | refine below_set ?_ GE203.out | refine below_set ?_ GE204.out) | exact HB.out)) hb); clear BK203; clear BK204; clear HB; have BK203 := n0_; have BK204 := n1_; have HB := n2_; clear n0_ n1_ n2_; (try clear hb); (try clear hb2); (try clear hk); (try clear hi)))
                go_ret
                exact ⟨by first | rfl | (simp [errW_none, errW_some] <;> rfl) | (simp [*, errW_none, errW_some] <;> rfl), by repeat (first | (with_reducible first | exact HB.out | apply below_alloc | apply pw_below_drewN | apply below_drew1 | refine below_set ?_ GE203.out | refine below_set ?_ GE204.out) | exact HB.out)⟩
              · replace c26 := Bool.eq_false_iff.mpr c26
                subst c26
                have H1 : (some false) = some r := by rw [if_neg (show ¬ (false = true) by decide)] at H; exact H
                clear H
                have H := H1
                clear H1
                obtain rfl := Option.some.inj H
                have hnb32 := NB203_204.out
                have hnc32 := NB204_203.out
                have hcz33_0 : wc.cell? ⟨gb203, 0, none⟩ = some (.int .u8 a0_0) := (blk_cell BK203.out 0).trans rfl
                have hcz33_1 : wc.cell? ⟨gb203, 1, none⟩ = some (.int .i64 a0_1) := (blk_cell BK203.out 1).trans rfl
                have hcz33_2 : wc.cell? ⟨gb203, 2, none⟩ = some (.int .u8 a0_2) := (blk_cell BK203.out 2).trans rfl
                have hcz33_3 : wc.cell? ⟨gb203, 3, none⟩ = some (.int .u32 a0_3) := (blk_cell BK203.out 3).trans rfl
                have hcz33_4 : wc.cell? ⟨gb203, 4, none⟩ = some (.bool a0_4) := (blk_cell BK203.out 4).trans rfl
                have hcz33_5 : wc.cell? ⟨gb203, 5, none⟩ = some (.int .u8 a0_5) := (blk_cell BK203.out 5).trans rfl
                have hcz33_6 : wc.cell? ⟨gb203, 6, none⟩ = some (.int .u8 a0_6) := (blk_cell BK203.out 6).trans rfl
                have hcz33_7 : wc.cell? ⟨gb203, 7, none⟩ = some (.slice A0_7 l0_7.length c0_7) := (blk_cell BK203.out 7).trans rfl
                have hcz33_8 : wc.cell? ⟨gb203, 8, none⟩ = some (.slice A0_8 l0_8.length c0_8) := (blk_cell BK203.out 8).trans rfl
                have hfz33_0 := blk_frozen BK203.out 0
                have hfz33_1 := blk_frozen BK203.out 1
                have hfz33_2 := blk_frozen BK203.out 2
                have hfz33_3 := blk_frozen BK203.out 3
                have hfz33_4 := blk_frozen BK203.out 4
                have hfz33_5 := blk_frozen BK203.out 5
                have hfz33_6 := blk_frozen BK203.out 6
                have hfz33_7 := blk_frozen BK203.out 7
                have hfz33_8 := blk_frozen BK203.out 8
                have hcz34_0 : wc.cell? ⟨gb204, 0, none⟩ = some (.int .u8 a1_0) := (blk_cell BK204.out 0).trans rfl
                have hcz34_1 : wc.cell? ⟨gb204, 1, none⟩ = some (.int .i64 a1_1) := (blk_cell BK204.out 1).trans rfl
                have hcz34_2 : wc.cell? ⟨gb204, 2, none⟩ = some (.int .u8 a1_2) := (blk_cell BK204.out 2).trans rfl
                have hcz34_3 : wc.cell? ⟨gb204, 3, none⟩ = some (.int .u32 a1_3) := (blk_cell BK204.out 3).trans rfl
                have hcz34_4 : wc.cell? ⟨gb204, 4, none⟩ = some (.bool a1_4) := (blk_cell BK204.out 4).trans rfl
                have hcz34_5 : wc.cell? ⟨gb204, 5, none⟩ = some (.int .u8 a1_5) := (blk_cell BK204.out 5).trans rfl
                have hcz34_6 : wc.cell? ⟨gb204, 6, none⟩ = some (.int .u8 a1_6) := (blk_cell BK204.out 6).trans rfl
                have hcz34_7 : wc.cell? ⟨gb204, 7, none⟩ = some (.slice A1_7 l1_7.length c1_7) := (blk_cell BK204.out 7).trans rfl
                have hcz34_8 : wc.cell? ⟨gb204, 8, none⟩ = some (.slice A1_8 l1_8.length c1_8) := (blk_cell BK204.out 8).trans rfl
                have hfz34_0 := blk_frozen BK204.out 0
                have hfz34_1 := blk_frozen BK204.out 1
                have hfz34_2 := blk_frozen BK204.out 2
                have hfz34_3 := blk_frozen BK204.out 3
                have hfz34_4 := blk_frozen BK204.out 4
                have hfz34_5 := blk_frozen BK204.out 5
                have hfz34_6 := blk_frozen BK204.out 6
                have hfz34_7 := blk_frozen BK204.out 7
                have hfz34_8 := blk_frozen BK204.out 8
                go_wp2_with (first | (go_at_call 32; (with_reducible refine (stolonref01_Rows.calls kj2 _ _ l0_7 _ _ l1_7 false _ ?side1 ?side2 ?side3 ?side4 A25.out).mono ?_); (case side1 => repeat (first | exact (Kd.C_below HR0_7.out HB.out) | (with_reducible refine Kd.C_alloc ?_ _) | (with_reducible refine Kd.C_drewN ?_ _) | (with_reducible refine Kd.C_drew ?_))); (case side2 => exact HC0_7.out); (case side3 => repeat (first | exact (Kd.C_below HR1_7.out HB.out) | (with_reducible refine Kd.C_alloc ?_ _) | (with_reducible refine Kd.C_drewN ?_ _) | (with_reducible refine Kd.C_drew ?_))); (case side4 => exact HC1_7.out); rintro e w' ⟨rfl, ⟨nd, rfl⟩⟩))
                go_ret
                exact ⟨by first | rfl | (simp [errW_none, errW_some] <;> rfl) | (simp [*, errW_none, errW_some] <;> rfl), by repeat (first | (with_reducible first | exact HB.out | apply below_alloc | apply pw_below_drewN | apply below_drew1 | refine below_set ?_ GE203.out | refine below_set ?_ GE204.out) | exact HB.out)⟩
            · rw [if_neg c24] at H
              have c24b0 : (a0_6 == a1_6) = false := beq_eq_false_iff_ne.mpr c24
              have c24b1 : (a0_6 != a1_6) = true := bne_iff_ne.mpr c24
              obtain rfl := Option.some.inj H
              have hnb35 := NB203_204.out
              have hnc35 := NB204_203.out
              have hcz36_0 : wc.cell? ⟨gb203, 0, none⟩ = some (.int .u8 a0_0) := (blk_cell BK203.out 0).trans rfl
              have hcz36_1 : wc.cell? ⟨gb203, 1, none⟩ = some (.int .i64 a0_1) := (blk_cell BK203.out 1).trans rfl
              have hcz36_2 : wc.cell? ⟨gb203, 2, none⟩ = some (.int .u8 a0_2) := (blk_cell BK203.out 2).trans rfl
              have hcz36_3 : wc.cell? ⟨gb203, 3, none⟩ = some (.int .u32 a0_3) := (blk_cell BK203.out 3).trans rfl
              have hcz36_4 : wc.cell? ⟨gb203, 4, none⟩ = some (.bool a0_4) := (blk_cell BK203.out 4).trans rfl
              have hcz36_5 : wc.cell? ⟨gb203, 5, none⟩ = some (.int .u8 a0_5) := (blk_cell BK203.out 5).trans rfl
              have hcz36_6 : wc.cell? ⟨gb203, 6, none⟩ = some (.int .u8 a0_6) := (blk_cell BK203.out 6).trans rfl
              have hcz36_7 : wc.cell? ⟨gb203, 7, none⟩ = some (.slice A0_7 l0_7.length c0_7) := (blk_cell BK203.out 7).trans rfl
              have hcz36_8 : wc.cell? ⟨gb203, 8, none⟩ = some (.slice A0_8 l0_8.length c0_8) := (blk_cell BK203.out 8).trans rfl
              have hfz36_0 := blk_frozen BK203.out 0
              have hfz36_1 := blk_frozen BK203.out 1
              have hfz36_2 := blk_frozen BK203.out 2
              have hfz36_3 := blk_frozen BK203.out 3
              have hfz36_4 := blk_frozen BK203.out 4
              have hfz36_5 := blk_frozen BK203.out 5
              have hfz36_6 := blk_frozen BK203.out 6
              have hfz36_7 := blk_frozen BK203.out 7
              have hfz36_8 := blk_frozen BK203.out 8
              have hcz37_0 : wc.cell? ⟨gb204, 0, none⟩ = some (.int .u8 a1_0) := (blk_cell BK204.out 0).trans rfl
              have hcz37_1 : wc.cell? ⟨gb204, 1, none⟩ = some (.int .i64 a1_1) := (blk_cell BK204.out 1).trans rfl
              have hcz37_2 : wc.cell? ⟨gb204, 2, none⟩ = some (.int .u8 a1_2) := (blk_cell BK204.out 2).trans rfl
              have hcz37_3 : wc.cell? ⟨gb204, 3, none⟩ = some (.int .u32 a1_3) := (blk_cell BK204.out 3).trans rfl
              have hcz37_4 : wc.cell? ⟨gb204, 4, none⟩ = some (.bool a1_4) := (blk_cell BK204.out 4).trans rfl
              have hcz37_5 : wc.cell? ⟨gb204, 5, none⟩ = some (.int .u8 a1_5) := (blk_cell BK204.out 5).trans rfl
              have hcz37_6 : wc.cell? ⟨gb204, 6, none⟩ = some (.int .u8 a1_6) := (blk_cell BK204.out 6).trans rfl
              have hcz37_7 : wc.cell? ⟨gb204, 7, none⟩ = some (.slice A1_7 l1_7.length c1_7) := (blk_cell BK204.out 7).trans rfl
              have hcz37_8 : wc.cell? ⟨gb204, 8, none⟩ = some (.slice A1_8 l1_8.length c1_8) := (blk_cell BK204.out 8).trans rfl
              have hfz37_0 := blk_frozen BK204.out 0
              have hfz37_1 := blk_frozen BK204.out 1
              have hfz37_2 := blk_frozen BK204.out 2
              have hfz37_3 := blk_frozen BK204.out 3
              have hfz37_4 := blk_frozen BK204.out 4
              have hfz37_5 := blk_frozen BK204.out 5
              have hfz37_6 := blk_frozen BK204.out 6
              have hfz37_7 := blk_frozen BK204.out 7
              have hfz37_8 := blk_frozen BK204.out 8
              go_wp2
              go_ret
              exact ⟨by first | rfl | (simp [errW_none, errW_some] <;> rfl) | (simp [*, errW_none, errW_some] <;> rfl), by repeat (first | (with_reducible first | exact HB.out | apply below_alloc | apply pw_below_drewN | apply below_drew1 | refine below_set ?_ GE203.out | refine below_set ?_ GE204.out) | exact HB.out)⟩
          · rw [if_neg c23] at H
            have c23b0 : (a0_5 == a1_5) = false := beq_eq_false_iff_ne.mpr c23
            have c23b1 : (a0_5 != a1_5) = true := bne_iff_ne.mpr c23
            obtain rfl := Option.some.inj H
            have hnb38 := NB203_204.out
            have hnc38 := NB204_203.out
            have hcz39_0 : wc.cell? ⟨gb203, 0, none⟩ = some (.int .u8 a0_0) := (blk_cell BK203.out 0).trans rfl
            have hcz39_1 : wc.cell? ⟨gb203, 1, none⟩ = some (.int .i64 a0_1) := (blk_cell BK203.out 1).trans rfl
            have hcz39_2 : wc.cell? ⟨gb203, 2, none⟩ = some (.int .u8 a0_2) := (blk_cell BK203.out 2).trans rfl
            have hcz39_3 : wc.cell? ⟨gb203, 3, none⟩ = some (.int .u32 a0_3) := (blk_cell BK203.out 3).trans rfl
            have hcz39_4 : wc.cell? ⟨gb203, 4, none⟩ = some (.bool a0_4) := (blk_cell BK203.out 4).trans rfl
            have hcz39_5 : wc.cell? ⟨gb203, 5, none⟩ = some (.int .u8 a0_5) := (blk_cell BK203.out 5).trans rfl
            have hcz39_6 : wc.cell? ⟨gb203, 6, none⟩ = some (.int .u8 a0_6) := (blk_cell BK203.out 6).trans rfl
            have hcz39_7 : wc.cell? ⟨gb203, 7, none⟩ = some (.slice A0_7 l0_7.length c0_7) := (blk_cell BK203.out 7).trans rfl
            have hcz39_8 : wc.cell? ⟨gb203, 8, none⟩ = some (.slice A0_8 l0_8.length c0_8) := (blk_cell BK203.out 8).trans rfl
            have hfz39_0 := blk_frozen BK203.out 0
            have hfz39_1 := blk_frozen BK203.out 1
            have hfz39_2 := blk_frozen BK203.out 2
            have hfz39_3 := blk_frozen BK203.out 3
            have hfz39_4 := blk_frozen BK203.out 4
            have hfz39_5 := blk_frozen BK203.out 5
            have hfz39_6 := blk_frozen BK203.out 6
            have hfz39_7 := blk_frozen BK203.out 7
            have hfz39_8 := blk_frozen BK203.out 8
            have hcz40_0 : wc.cell? ⟨gb204, 0, none⟩ = some (.int .u8 a1_0) := (blk_cell BK204.out 0).trans rfl
            have hcz40_1 : wc.cell? ⟨gb204, 1, none⟩ = some (.int .i64 a1_1) := (blk_cell BK204.out 1).trans rfl
            have hcz40_2 : wc.cell? ⟨gb204, 2, none⟩ = some (.int .u8 a1_2) := (blk_cell BK204.out 2).trans rfl
            have hcz40_3 : wc.cell? ⟨gb204, 3, none⟩ = some (.int .u32 a1_3) := (blk_cell BK204.out 3).trans rfl
            have hcz40_4 : wc.cell? ⟨gb204, 4, none⟩ = some (.bool a1_4) := (blk_cell BK204.out 4).trans rfl
            have hcz40_5 : wc.cell? ⟨gb204, 5, none⟩ = some (.int .u8 a1_5) := (blk_cell BK204.out 5).trans rfl
            have hcz40_6 : wc.cell? ⟨gb204, 6, none⟩ = some (.int .u8 a1_6) := (blk_cell BK204.out 6).trans rfl
            have hcz40_7 : wc.cell? ⟨gb204, 7, none⟩ = some (.slice A1_7 l1_7.length c1_7) := (blk_cell BK204.out 7).trans rfl
            have hcz40_8 : wc.cell? ⟨gb204, 8, none⟩ = some (.slice A1_8 l1_8.length c1_8) := (blk_cell BK204.out 8).trans rfl
            have hfz40_0 := blk_frozen BK204.out 0
            have hfz40_1 := blk_frozen BK204.out 1
            have hfz40_2 := blk_frozen BK204.out 2
            have hfz40_3 := blk_frozen BK204.out 3
            have hfz40_4 := blk_frozen BK204.out 4
            have hfz40_5 := blk_frozen BK204.out 5
            have hfz40_6 := blk_frozen BK204.out 6
            have hfz40_7 := blk_frozen BK204.out 7
            have hfz40_8 := blk_frozen BK204.out 8
            go_wp2
            go_ret
            exact ⟨by first | rfl | (simp [errW_none, errW_some] <;> rfl) | (simp [*, errW_none, errW_some] <;> rfl), by repeat (first | (with_reducible first | exact HB.out | apply below_alloc | apply pw_below_drewN | apply below_drew1 | refine below_set ?_ GE203.out | refine below_set ?_ GE204.out) | exact HB.out)⟩
        · rw [if_neg c22] at H
          have c22b0 : (a0_4 == a1_4) = false := by simpa using c22
          (try (have c22b1 : decide (a0_4 = a1_4) = false := by simpa using c22))
          (try (have c22b2 : (a0_4 == a1_4) = false := by simpa using c22))
          (try (have c22b3 : ¬ (a0_4 = a1_4) := by simpa using c22))
          clear c22
          obtain rfl := Option.some.inj H
          have hnb41 := NB203_204.out
          have hnc41 := NB204_203.out
          have hcz42_0 : wc.cell? ⟨gb203, 0, none⟩ = some (.int .u8 a0_0) := (blk_cell BK203.out 0).trans rfl
          have hcz42_1 : wc.cell? ⟨gb203, 1, none⟩ = some (.int .i64 a0_1) := (blk_cell BK203.out 1).trans rfl
          have hcz42_2 : wc.cell? ⟨gb203, 2, none⟩ = some (.int .u8 a0_2) := (blk_cell BK203.out 2).trans rfl
          have hcz42_3 : wc.cell? ⟨gb203, 3, none⟩ = some (.int .u32 a0_3) := (blk_cell BK203.out 3).trans rfl
          have hcz42_4 : wc.cell? ⟨gb203, 4, none⟩ = some (.bool a0_4) := (blk_cell BK203.out 4).trans rfl
          have hcz42_5 : wc.cell? ⟨gb203, 5, none⟩ = some (.int .u8 a0_5) := (blk_cell BK203.out 5).trans rfl
          have hcz42_6 : wc.cell? ⟨gb203, 6, none⟩ = some (.int .u8 a0_6) := (blk_cell BK203.out 6).trans rfl
          have hcz42_7 : wc.cell? ⟨gb203, 7, none⟩ = some (.slice A0_7 l0_7.length c0_7) := (blk_cell BK203.out 7).trans rfl
          have hcz42_8 : wc.cell? ⟨gb203, 8, none⟩ = some (.slice A0_8 l0_8.length c0_8) := (blk_cell BK203.out 8).trans rfl
          have hfz42_0 := blk_frozen BK203.out 0
          have hfz42_1 := blk_frozen BK203.out 1
          have hfz42_2 := blk_frozen BK203.out 2
          have hfz42_3 := blk_frozen BK203.out 3
          have hfz42_4 := blk_frozen BK203.out 4
          have hfz42_5 := blk_frozen BK203.out 5
          have hfz42_6 := blk_frozen BK203.out 6
          have hfz42_7 := blk_frozen BK203.out 7
          have hfz42_8 := blk_frozen BK203.out 8
          have hcz43_0 : wc.cell? ⟨gb204, 0, none⟩ = some (.int .u8 a1_0) := (blk_cell BK204.out 0).trans rfl
          have hcz43_1 : wc.cell? ⟨gb204, 1, none⟩ = some (.int .i64 a1_1) := (blk_cell BK204.out 1).trans rfl
          have hcz43_2 : wc.cell? ⟨gb204, 2, none⟩ = some (.int .u8 a1_2) := (blk_cell BK204.out 2).trans rfl
          have hcz43_3 : wc.cell? ⟨gb204, 3, none⟩ = some (.int .u32 a1_3) := (blk_cell BK204.out 3).trans rfl
          have hcz43_4 : wc.cell? ⟨gb204, 4, none⟩ = some (.bool a1_4) := (blk_cell BK204.out 4).trans rfl
          have hcz43_5 : wc.cell? ⟨gb204, 5, none⟩ = some (.int .u8 a1_5) := (blk_cell BK204.out 5).trans rfl
          have hcz43_6 : wc.cell? ⟨gb204, 6, none⟩ = some (.int .u8 a1_6) := (blk_cell BK204.out 6).trans rfl
          have hcz43_7 : wc.cell? ⟨gb204, 7, none⟩ = some (.slice A1_7 l1_7.length c1_7) := (blk_cell BK204.out 7).trans rfl
          have hcz43_8 : wc.cell? ⟨gb204, 8, none⟩ = some (.slice A1_8 l1_8.length c1_8) := (blk_cell BK204.out 8).trans rfl
          have hfz43_0 := blk_frozen BK204.out 0
          have hfz43_1 := blk_frozen BK204.out 1
          have hfz43_2 := blk_frozen BK204.out 2
          have hfz43_3 := blk_frozen BK204.out 3
          have hfz43_4 := blk_frozen BK204.out 4
          have hfz43_5 := blk_frozen BK204.out 5
          have hfz43_6 := blk_frozen BK204.out 6
          have hfz43_7 := blk_frozen BK204.out 7
          have hfz43_8 := blk_frozen BK204.out 8
          go_wp2
          go_ret
          exact ⟨by first | rfl | (simp [errW_none, errW_some] <;> rfl) | (simp [*, errW_none, errW_some] <;> rfl), by repeat (first | (with_reducible first | exact HB.out | apply below_alloc | apply pw_below_drewN | apply below_drew1 | refine below_set ?_ GE203.out | refine below_set ?_ GE204.out) | exact HB.out)⟩
      · replace c21 := Bool.eq_false_iff.mpr c21
        subst c21
        have H1 : (some false) = some r := by rw [if_neg (show ¬ (false = true) by decide)] at H; exact H
        clear H
        have H := H1
        clear H1
        obtain rfl := Option.some.inj H
        go_wp2
        go_ret
        exact ⟨by first | rfl | (simp [errW_none, errW_some] <;> rfl) | (simp [*, errW_none, errW_some] <;> rfl), by repeat (first | (with_reducible first | exact HB.out | apply below_alloc | apply pw_below_drewN | apply below_drew1 | refine below_set ?_ GE203.out | refine below_set ?_ GE204.out) | exact HB.out)⟩

end Go.Proofs.Ytafmjhmpnlkeiaa.P

/- The plain law, second part: Same. -/
namespace Go.Proofs.Ytafmjhmpnlkeiaa.P
open Go.RowKit Go.Proofs.YtafmjhmpnlkeiaaW.PrintWords Go.Proofs.YtafmjhmpnlkeiaaW.PrintLast Go.Proofs.YtafmjhmpnlkeiaaW.PrintMore
set_option linter.unusedVariables false
set_option linter.unusedSimpArgs false

/-- A message, of the Go struct's fields. -/
structure Msg where
  kind : Int
  ver : Int
  code : Int
  group : Int
  quiet : Bool
  robust : Int
  every : Int
  srcs : List Int
  recs : List S44
/-- Few enough that no length wraps. -/
def Msg.short (m : Msg) : Prop := m.srcs.length ≤ 9223372036854775807 ∧ m.recs.length ≤ 9223372036854775807 ∧ ∀ r ∈ m.recs, r.f2.length ≤ 9223372036854775807
def sameV (m n : Msg) : Bool := decide (m.kind = n.kind) && decide (m.ver = n.ver) && decide (m.code = n.code) && decide (m.group = n.group) && (m.quiet == n.quiet) && decide (m.robust = n.robust) && decide (m.every = n.every) && decide (m.srcs = n.srcs) && recsEq m.recs n.recs
theorem same12j (m n : Msg) (hm : m.short) (x : Bool) : Ev (fun k => igmp_Same.j0 k x m.kind m.ver m.code m.group m.quiet m.robust m.every m.srcs m.recs n.kind n.ver n.code n.group n.quiet n.robust n.every n.srcs n.recs) (x && decide (m.srcs = n.srcs) && recsEq m.recs n.recs) := by
  refine Ev.succ (fun k => by simp only [igmp_Same.j0]; rfl) ?_
  refine Ev.ite (fun h => ?_) (fun h => Ev.const (by simp [h]))
  refine Ev.bind (addr29_f _ _ hm.1) ?_
  refine Ev.ite (fun h1 => Ev.const ?_) (fun h1 => Ev.const ?_)
  · simp at h1
    simp [h, h1, api_Record_30.f]
  · simp at h1
    simp [h1]
theorem same12 (m n : Msg) (hm : m.short) : Ev (fun k => igmp_Same.f k m.kind m.ver m.code m.group m.quiet m.robust m.every m.srcs m.recs n.kind n.ver n.code n.group n.quiet n.robust n.every n.srcs n.recs) (sameV m n) := by
  unfold igmp_Same.f sameV
  refine Ev.ite (fun h0 => Ev.ite (fun h1 => Ev.ite (fun h2 => Ev.ite (fun h3 => Ev.ite (fun h4 => Ev.ite (fun h5 => ?_) (fun h5 => ?_)) (fun h4 => ?_)) (fun h3 => ?_)) (fun h2 => ?_)) (fun h1 => ?_)) (fun h0 => ?_)
  · have he : (m.every == n.every) = decide (m.every = n.every) := by by_cases e : m.every = n.every <;> simp [e]
    exact (same12j m n hm _).val (by simp [h0, h1, h2, h3, h4, h5, he])
  · exact (same12j m n hm _).val (by simp [h5])
  · exact (same12j m n hm _).val (by simp [h4])
  · exact (same12j m n hm _).val (by simp [h3])
  · exact (same12j m n hm _).val (by simp [h2])
  · exact (same12j m n hm _).val (by simp [h1])
  · exact (same12j m n hm _).val (by simp [h0])
theorem same13j (m n : Msg) (hm : m.short) (x : Bool) : Ev (fun k => stolonref05_Same.j0 k x m.kind m.ver m.code m.group m.quiet m.robust m.every m.srcs m.recs n.kind n.ver n.code n.group n.quiet n.robust n.every n.srcs n.recs) (x && (m.quiet == n.quiet) && decide (m.robust = n.robust) && decide (m.every = n.every) && decide (m.srcs = n.srcs) && recsEq m.recs n.recs) := by
  refine Ev.succ (fun k => by simp only [stolonref05_Same.j0]; rfl) ?_
  refine Ev.ite (fun h => ?_) (fun h => Ev.const (by simp [h]))
  refine Ev.ite (fun h1 => Ev.ite (fun h2 => Ev.ite (fun h3 => ?_) (fun h3 => Ev.const (by simp [h3]))) (fun h2 => Ev.const (by simp [h2]))) (fun h1 => Ev.const (by simp [h1]))
  refine Ev.bind (rows32_f _ _ hm.1) ?_
  refine Ev.ite (fun h4 => ?_) (fun h4 => Ev.const ?_)
  · refine Ev.bind (recs33_f _ _ hm.2.1 hm.2.2) (Ev.const ?_)
    simp at h4
    simp [h, h1, h2, h3, h4]
  · simp at h4
    simp [h4]
theorem same13 (m n : Msg) (hm : m.short) : Ev (fun k => stolonref05_Same.f k m.kind m.ver m.code m.group m.quiet m.robust m.every m.srcs m.recs n.kind n.ver n.code n.group n.quiet n.robust n.every n.srcs n.recs) (sameV m n) := by
  unfold stolonref05_Same.f sameV
  refine Ev.ite (fun h0 => Ev.ite (fun h1 => Ev.ite (fun h2 => ?_) (fun h2 => ?_)) (fun h1 => ?_)) (fun h0 => ?_)
  · refine (same13j m n hm _).val ?_
    by_cases h3 : m.group = n.group <;> simp [h0, h1, h2, h3]
  · exact (same13j m n hm _).val (by simp [h2])
  · exact (same13j m n hm _).val (by simp [h1])
  · exact (same13j m n hm _).val (by simp [h0])
end Go.Proofs.Ytafmjhmpnlkeiaa.P
