/- Seat 5's texts, merged by a program of this session: F6. Parts of the proof of IgmpWrites: whatever two messages, the law returns true. -/
import Derived.Test.YtafmjhmpnlkeiaaMA

/- Printed by myprint.py, a program of this session, over the kit's print. -/
namespace Go.Proofs.Ytafmjhmpnlkeiaa.P
open Go.RowKit Go.Proofs.YtafmjhmpnlkeiaaW.PrintWords Go.Proofs.YtafmjhmpnlkeiaaW.PrintLast Go.Proofs.YtafmjhmpnlkeiaaW.PrintMore
attribute [local go_sem] max2_int min2_int max_two min_two max_three min_three max_four min_four   -- for this text's walks alone
set_option linter.unusedVariables false
set_option linter.unusedSimpArgs false

/-! ### stolonref05_Few: function 6 -/
def stolonref05_Few.l0 : Nat → Int → Int → Int → Int → Int → Int → Bool → Int → Int → List Int → List (S44) → Option (Bool)
  | 0, _, _, _, _, _, _, _, _, _, _, _ => none
  | k + 1, x3, x4, x153000, x153001, x153002, x153003, x153004, x153005, x153006, x153007, x153008 => if x4 < (x153008.length : Int) then (if x3 ≤ 3000 then (if 0 ≤ x4 then (stolonref05_Few.l0 k (wrap64 (x3 + (((rd_T44 x153008 x4).f2).length : Int))) (wrap64 (x4 + 1)) x153000 x153001 x153002 x153003 x153004 x153005 x153006 x153007 x153008) else (none)) else (some (decide (x3 ≤ 3000)))) else (some (decide (x3 ≤ 3000)))
def stolonref05_Few.f (k : Nat) (a0_0 : Int) (a0_1 : Int) (a0_2 : Int) (a0_3 : Int) (a0_4 : Bool) (a0_5 : Int) (a0_6 : Int) (l0_7 : List Int) (l0_8 : List (S44)) : Option (Bool) := stolonref05_Few.l0 k (wrap64 ((l0_7.length : Int) + (l0_8.length : Int))) 0 a0_0 a0_1 a0_2 a0_3 a0_4 a0_5 a0_6 l0_7 l0_8
theorem stolonref05_Few.mono_l : ∀ k, (∀ y0 y1 y2 y3 y4 y5 y6 y7 y8 y9 y10, LeO (stolonref05_Few.l0 k y0 y1 y2 y3 y4 y5 y6 y7 y8 y9 y10) (stolonref05_Few.l0 (k + 1) y0 y1 y2 y3 y4 y5 y6 y7 y8 y9 y10))
  | 0 => fun _ _ _ _ _ _ _ _ _ _ _ r h => by simp [stolonref05_Few.l0] at h
  | k + 1 => by
    have ih0 := stolonref05_Few.mono_l k
    · intro y0 y1 y2 y3 y4 y5 y6 y7 y8 y9 y10
      unfold stolonref05_Few.l0
      repeat' first
      | (with_reducible exact ih0 _ _ _ _ _ _ _ _ _ _ _)
      | (with_reducible exact LeO.refl _)
      | (with_reducible exact LeO.none _)
      | (with_reducible refine LeO.ite ?_ ?_)
      | (with_reducible refine LeO.bind ?_ (fun _ => ?_))
      | exact ih0 _ _ _ _ _ _ _ _ _ _ _
      | exact LeO.none _
      | refine LeO.ite ?_ ?_
      | refine LeO.bind ?_ (fun _ => ?_)
theorem stolonref05_Few.mono : ∀ a0 a1 a2 a3 a4 a5 a6 a7 a8 k, LeO (stolonref05_Few.f k a0 a1 a2 a3 a4 a5 a6 a7 a8) (stolonref05_Few.f (k + 1) a0 a1 a2 a3 a4 a5 a6 a7 a8) := by
  intro a0 a1 a2 a3 a4 a5 a6 a7 a8 k
  have ih0 := stolonref05_Few.mono_l k
  unfold stolonref05_Few.f
  repeat' first
      | (with_reducible exact ih0 _ _ _ _ _ _ _ _ _ _ _)
      | (with_reducible exact LeO.refl _)
      | (with_reducible exact LeO.none _)
      | (with_reducible refine LeO.ite ?_ ?_)
      | (with_reducible refine LeO.bind ?_ (fun _ => ?_))
      | exact ih0 _ _ _ _ _ _ _ _ _ _ _
      | exact LeO.none _
      | refine LeO.ite ?_ ?_
      | refine LeO.bind ?_ (fun _ => ?_)
set_option maxHeartbeats 8000000 in
set_option maxRecDepth 100000 in
theorem stolonref05_Few.calls (k : Nat) (a0_0 : Int) (a0_1 : Int) (a0_2 : Int) (a0_3 : Int) (a0_4 : Bool) (a0_5 : Int) (a0_6 : Int) (A0_7 : Option Addr) (c0_7 : Nat) (l0_7 : List Int) (A0_8 : Option Addr) (c0_8 : Nat) (l0_8 : List (S44)) (r : Bool) (w : World) (hr0_7 : Kd.C (Kd.int .u32) w A0_7 l0_7.length l0_7) (hc0_7 : l0_7.length ≤ c0_7) (hr0_8 : Kd.C k44 w A0_8 l0_8.length l0_8) (hc0_8 : l0_8.length ≤ c0_8) (h : stolonref05_Few.f k a0_0 a0_1 a0_2 a0_3 a0_4 a0_5 a0_6 l0_7 l0_8 = some r) :
    Calls Try.prog 6 #[.agg #[.int .u8 a0_0, .int .i64 a0_1, .int .u8 a0_2, .int .u32 a0_3, .bool a0_4, .int .u8 a0_5, .int .u8 a0_6, .slice A0_7 l0_7.length c0_7, .slice A0_8 l0_8.length c0_8]] w fun e w' => e = .returned (.bool r) ∧ Below w.heap.size w w' := by
  have hu27 := Try.underlying27
  have HR0_7 := Aside0.mk hr0_7
  have HC0_7 := Aside0.mk hc0_7
  clear hr0_7 hc0_7
  have HR0_8 := Aside0.mk hr0_8
  have HC0_8 := Aside0.mk hc0_8
  clear hr0_8 hc0_8
  have HB := Aside0.mk (Below.refl w.heap.size w)
  have H : (stolonref05_Few.l0 k (wrap64 ((l0_7.length : Int) + (l0_8.length : Int))) 0 a0_0 a0_1 a0_2 a0_3 a0_4 a0_5 a0_6 l0_7 l0_8) = some r := h
  clear h
  have H' := Aside0.mk H
  clear H
  go_enter Try.func6, Try.ntmps6
  go_wp2_with (first | ((with_reducible refine gate_dst (N := 1) rfl ?_); refine box_event ?hg (N := 1) ?hd (cs := #[.int .u8 a0_0, .int .i64 a0_1, .int .u8 a0_2, .int .u32 a0_3, .bool a0_4, .int .u8 a0_5, .int .u8 a0_6, .slice A0_7 l0_7.length c0_7, .slice A0_8 l0_8.length c0_8]) (t := 27) ?hr ?_; (case hd => rfl); (case hg => rfl); (case hr => first | (go_simp; done) | (go_simp; rfl)); intro gb152 hg w2 hbox hb; have n0_ := Aside0.mk (below_step (by repeat (first | (with_reducible first | exact HB.out | apply below_alloc | apply pw_below_drewN | apply below_drew1) | exact HB.out)) hb); have n1_ := Aside0.mk (hbox); have n2_ := Aside0.mk ((by rw [hg]; exact (below_size (by repeat (first | (with_reducible first | exact HB.out | apply below_alloc | apply pw_below_drewN | apply below_drew1) | exact HB.out))) : w.heap.size ≤ gb152)); have n3_ := Aside0.mk ((by rw [hg]; exact (below_size (by repeat (first | (with_reducible first | exact HB.out | apply below_alloc | apply pw_below_drewN | apply below_drew1) | exact HB.out))) : w.heap.size ≤ gb152)); clear HB; have HB := n0_; have BK152 := n1_; have GW152 := n2_; have GE152 := n3_; clear n0_ n1_ n2_ n3_; clear hb hbox hg; have hcz3_0 : w2.cell? ⟨gb152, 0, none⟩ = some (.int .u8 a0_0) := (blk_cell BK152.out 0).trans rfl; have hcz3_1 : w2.cell? ⟨gb152, 1, none⟩ = some (.int .i64 a0_1) := (blk_cell BK152.out 1).trans rfl; have hcz3_2 : w2.cell? ⟨gb152, 2, none⟩ = some (.int .u8 a0_2) := (blk_cell BK152.out 2).trans rfl; have hcz3_3 : w2.cell? ⟨gb152, 3, none⟩ = some (.int .u32 a0_3) := (blk_cell BK152.out 3).trans rfl; have hcz3_4 : w2.cell? ⟨gb152, 4, none⟩ = some (.bool a0_4) := (blk_cell BK152.out 4).trans rfl; have hcz3_5 : w2.cell? ⟨gb152, 5, none⟩ = some (.int .u8 a0_5) := (blk_cell BK152.out 5).trans rfl; have hcz3_6 : w2.cell? ⟨gb152, 6, none⟩ = some (.int .u8 a0_6) := (blk_cell BK152.out 6).trans rfl; have hcz3_7 : w2.cell? ⟨gb152, 7, none⟩ = some (.slice A0_7 l0_7.length c0_7) := (blk_cell BK152.out 7).trans rfl; have hcz3_8 : w2.cell? ⟨gb152, 8, none⟩ = some (.slice A0_8 l0_8.length c0_8) := (blk_cell BK152.out 8).trans rfl; have hfz3_0 := blk_frozen BK152.out 0; have hfz3_1 := blk_frozen BK152.out 1; have hfz3_2 := blk_frozen BK152.out 2; have hfz3_3 := blk_frozen BK152.out 3; have hfz3_4 := blk_frozen BK152.out 4; have hfz3_5 := blk_frozen BK152.out 5; have hfz3_6 := blk_frozen BK152.out 6; have hfz3_7 := blk_frozen BK152.out 7; have hfz3_8 := blk_frozen BK152.out 8))
  go_loopg [3, 4] k (fun kq v3 v4 w' => ∃ (x3_1 : Int) (x4_1 : Int), v3 = .int .i64 x3_1 ∧ v4 = .int .i64 x4_1 ∧ Aside0 (stolonref05_Few.l0 kq x3_1 x4_1 a0_0 a0_1 a0_2 a0_3 a0_4 a0_5 a0_6 l0_7 l0_8 = some r) ∧ Aside0 (kq ≤ k) ∧ Aside0 (w'.heap[gb152]? = some (.cells #[.int .u8 a0_0, .int .i64 a0_1, .int .u8 a0_2, .int .u32 a0_3, .bool a0_4, .int .u8 a0_5, .int .u8 a0_6, (.slice A0_7 l0_7.length c0_7), (.slice A0_8 l0_8.length c0_8)] 27 (0, 0))) ∧ Aside0 (Below w.heap.size w w'))
  case atStart => exact ⟨(wrap64 ((l0_7.length : Int) + (l0_8.length : Int))), (0), (by first | rfl | (simp; done) | (simp [*]; done)), (by first | rfl | (simp; done) | (simp [*]; done)), H', ⟨Nat.le_refl _⟩, ⟨by (with_reducible repeat (first | refine blk_drewN ?_ _ | refine blk_drew ?_ | refine blk_alloc ?_ _)); exact BK152.out⟩, ⟨by repeat (first | (with_reducible first | exact HB.out | apply below_alloc | apply pw_below_drewN | apply below_drew1 | refine below_set ?_ GE152.out) | exact HB.out)⟩⟩
  case round =>
    clear H'
    try clear p2
    try clear hcz3_0
    try clear hcz3_1
    try clear hcz3_2
    try clear hcz3_3
    try clear hcz3_4
    try clear hcz3_5
    try clear hcz3_6
    try clear hcz3_7
    try clear hcz3_8
    try clear hfz3_0
    try clear hfz3_1
    try clear hfz3_2
    try clear hfz3_3
    try clear hfz3_4
    try clear hfz3_5
    try clear hfz3_6
    try clear hfz3_7
    try clear hfz3_8
    obtain ⟨x3_1, x4_1, rfl, rfl, HA, HK1, BK152, HB⟩ := hrel
    cases gk with
    | zero => exact absurd HA.out (by simp [stolonref05_Few.l0])
    | succ k1 =>
      have H := HA.out
      clear HA
      simp only [stolonref05_Few.l0] at H
      by_cases c4 : x4_1 < (l0_8.length : Int)
      · rw [if_pos c4] at H
        have c4b0 : decide (x4_1 < (l0_8.length : Int)) = true := decide_eq_true c4
        clear c4
        by_cases c5 : x3_1 ≤ 3000
        · rw [if_pos c5] at H
          have c5b0 : decide (x3_1 ≤ 3000) = true := decide_eq_true c5
          clear c5
          by_cases c6 : 0 ≤ x4_1
          · rw [if_pos c6] at H
            have c6b0 : decide (0 ≤ x4_1) = true := decide_eq_true c6
            clear c6
            have H' := Aside0.mk H
            clear H
            have hcz7_0 : wr.cell? ⟨gb152, 0, none⟩ = some (.int .u8 a0_0) := (blk_cell BK152.out 0).trans rfl
            have hcz7_1 : wr.cell? ⟨gb152, 1, none⟩ = some (.int .i64 a0_1) := (blk_cell BK152.out 1).trans rfl
            have hcz7_2 : wr.cell? ⟨gb152, 2, none⟩ = some (.int .u8 a0_2) := (blk_cell BK152.out 2).trans rfl
            have hcz7_3 : wr.cell? ⟨gb152, 3, none⟩ = some (.int .u32 a0_3) := (blk_cell BK152.out 3).trans rfl
            have hcz7_4 : wr.cell? ⟨gb152, 4, none⟩ = some (.bool a0_4) := (blk_cell BK152.out 4).trans rfl
            have hcz7_5 : wr.cell? ⟨gb152, 5, none⟩ = some (.int .u8 a0_5) := (blk_cell BK152.out 5).trans rfl
            have hcz7_6 : wr.cell? ⟨gb152, 6, none⟩ = some (.int .u8 a0_6) := (blk_cell BK152.out 6).trans rfl
            have hcz7_7 : wr.cell? ⟨gb152, 7, none⟩ = some (.slice A0_7 l0_7.length c0_7) := (blk_cell BK152.out 7).trans rfl
            have hcz7_8 : wr.cell? ⟨gb152, 8, none⟩ = some (.slice A0_8 l0_8.length c0_8) := (blk_cell BK152.out 8).trans rfl
            have hfz7_0 := blk_frozen BK152.out 0
            have hfz7_1 := blk_frozen BK152.out 1
            have hfz7_2 := blk_frozen BK152.out 2
            have hfz7_3 := blk_frozen BK152.out 3
            have hfz7_4 := blk_frozen BK152.out 4
            have hfz7_5 := blk_frozen BK152.out 5
            have hfz7_6 := blk_frozen BK152.out 6
            have hfz7_7 := blk_frozen BK152.out 7
            have hfz7_8 := blk_frozen BK152.out 8
            have p153 : 0 ≤ (x4_1 : Int) := of_decide_eq_true (by first | (with_reducible assumption) | assumption)
            have q153 : x4_1 < (l0_8.length : Int) := of_decide_eq_true (by first | (with_reducible assumption) | assumption)
            obtain ⟨ad153, A153_2, c153_2, e153, hx153_0, hx153_1, hx153_2, hl153_2, hi153_2⟩ := at_T44 HR0_8.out x4_1 p153 q153
            cases e153
            replace hx153_0 := (HB.out.cell (World.block_lt_of_cell? w _ hx153_0)).trans hx153_0
            replace hx153_1 := (HB.out.cell (World.block_lt_of_cell? w _ hx153_1)).trans hx153_1
            replace hx153_2 := (HB.out.cell (World.block_lt_of_cell? w _ hx153_2)).trans hx153_2
            have HR153_2 := Aside0.mk hi153_2
            have HC153_2 := Aside0.mk hl153_2
            clear hi153_2 hl153_2
            replace p153 := eq_true p153
            replace q153 := eq_true q153
            go_wp2
            go_roundg k1
            case measure => have := HK1.out; omega
            case rel => exact ⟨(wrap64 (x3_1 + (((rd_T44 l0_8 x4_1).f2).length : Int))), (wrap64 (x4_1 + 1)), (by first | rfl | (simp; done) | (simp [*]; done)), (by first | rfl | (simp; done) | (simp [*]; done)), H', ⟨by have := HK1.out; omega⟩, ⟨by (with_reducible repeat (first | refine blk_drewN ?_ _ | refine blk_drew ?_ | refine blk_alloc ?_ _)); exact BK152.out⟩, ⟨by repeat (first | (with_reducible first | exact HB.out | apply below_alloc | apply pw_below_drewN | apply below_drew1 | refine below_set ?_ GE152.out) | exact HB.out)⟩⟩
          · rw [if_neg c6] at H
            exact absurd H (by simp)
        · rw [if_neg c5] at H
          have c5b0 : decide (x3_1 ≤ 3000) = false := decide_eq_false c5
          clear c5
          obtain rfl := Option.some.inj H
          have hcz8_0 : wr.cell? ⟨gb152, 0, none⟩ = some (.int .u8 a0_0) := (blk_cell BK152.out 0).trans rfl
          have hcz8_1 : wr.cell? ⟨gb152, 1, none⟩ = some (.int .i64 a0_1) := (blk_cell BK152.out 1).trans rfl
          have hcz8_2 : wr.cell? ⟨gb152, 2, none⟩ = some (.int .u8 a0_2) := (blk_cell BK152.out 2).trans rfl
          have hcz8_3 : wr.cell? ⟨gb152, 3, none⟩ = some (.int .u32 a0_3) := (blk_cell BK152.out 3).trans rfl
          have hcz8_4 : wr.cell? ⟨gb152, 4, none⟩ = some (.bool a0_4) := (blk_cell BK152.out 4).trans rfl
          have hcz8_5 : wr.cell? ⟨gb152, 5, none⟩ = some (.int .u8 a0_5) := (blk_cell BK152.out 5).trans rfl
          have hcz8_6 : wr.cell? ⟨gb152, 6, none⟩ = some (.int .u8 a0_6) := (blk_cell BK152.out 6).trans rfl
          have hcz8_7 : wr.cell? ⟨gb152, 7, none⟩ = some (.slice A0_7 l0_7.length c0_7) := (blk_cell BK152.out 7).trans rfl
          have hcz8_8 : wr.cell? ⟨gb152, 8, none⟩ = some (.slice A0_8 l0_8.length c0_8) := (blk_cell BK152.out 8).trans rfl
          have hfz8_0 := blk_frozen BK152.out 0
          have hfz8_1 := blk_frozen BK152.out 1
          have hfz8_2 := blk_frozen BK152.out 2
          have hfz8_3 := blk_frozen BK152.out 3
          have hfz8_4 := blk_frozen BK152.out 4
          have hfz8_5 := blk_frozen BK152.out 5
          have hfz8_6 := blk_frozen BK152.out 6
          have hfz8_7 := blk_frozen BK152.out 7
          have hfz8_8 := blk_frozen BK152.out 8
          go_wp2
          go_ret
          exact ⟨by first | rfl | (simp [errW_none, errW_some] <;> rfl) | (simp [*, errW_none, errW_some] <;> rfl), by repeat (first | (with_reducible first | exact HB.out | apply below_alloc | apply pw_below_drewN | apply below_drew1 | refine below_set ?_ GE152.out) | exact HB.out)⟩
      · rw [if_neg c4] at H
        have c4b0 : decide (x4_1 < (l0_8.length : Int)) = false := decide_eq_false c4
        clear c4
        obtain rfl := Option.some.inj H
        have hcz9_0 : wr.cell? ⟨gb152, 0, none⟩ = some (.int .u8 a0_0) := (blk_cell BK152.out 0).trans rfl
        have hcz9_1 : wr.cell? ⟨gb152, 1, none⟩ = some (.int .i64 a0_1) := (blk_cell BK152.out 1).trans rfl
        have hcz9_2 : wr.cell? ⟨gb152, 2, none⟩ = some (.int .u8 a0_2) := (blk_cell BK152.out 2).trans rfl
        have hcz9_3 : wr.cell? ⟨gb152, 3, none⟩ = some (.int .u32 a0_3) := (blk_cell BK152.out 3).trans rfl
        have hcz9_4 : wr.cell? ⟨gb152, 4, none⟩ = some (.bool a0_4) := (blk_cell BK152.out 4).trans rfl
        have hcz9_5 : wr.cell? ⟨gb152, 5, none⟩ = some (.int .u8 a0_5) := (blk_cell BK152.out 5).trans rfl
        have hcz9_6 : wr.cell? ⟨gb152, 6, none⟩ = some (.int .u8 a0_6) := (blk_cell BK152.out 6).trans rfl
        have hcz9_7 : wr.cell? ⟨gb152, 7, none⟩ = some (.slice A0_7 l0_7.length c0_7) := (blk_cell BK152.out 7).trans rfl
        have hcz9_8 : wr.cell? ⟨gb152, 8, none⟩ = some (.slice A0_8 l0_8.length c0_8) := (blk_cell BK152.out 8).trans rfl
        have hfz9_0 := blk_frozen BK152.out 0
        have hfz9_1 := blk_frozen BK152.out 1
        have hfz9_2 := blk_frozen BK152.out 2
        have hfz9_3 := blk_frozen BK152.out 3
        have hfz9_4 := blk_frozen BK152.out 4
        have hfz9_5 := blk_frozen BK152.out 5
        have hfz9_6 := blk_frozen BK152.out 6
        have hfz9_7 := blk_frozen BK152.out 7
        have hfz9_8 := blk_frozen BK152.out 8
        go_wp2
        go_ret
        exact ⟨by first | rfl | (simp [errW_none, errW_some] <;> rfl) | (simp [*, errW_none, errW_some] <;> rfl), by repeat (first | (with_reducible first | exact HB.out | apply below_alloc | apply pw_below_drewN | apply below_drew1 | refine below_set ?_ GE152.out) | exact HB.out)⟩

end Go.Proofs.Ytafmjhmpnlkeiaa.P
