/- Seat 5's texts, merged by a program of this session: F23, F9, F28. Parts of the proof of IgmpWrites: whatever two messages, the law returns true. -/
import Derived.Test.YtafmjhmpnlkeiaaMA
import Derived.Test.YtafmjhmpnlkeiaaMC
import Derived.Test.YtafmjhmpnlkeiaaMB

/- Printed by myprint.py, a program of this session, over the kit's print. -/
namespace Go.Proofs.Ytafmjhmpnlkeiaa.P
open Go.RowKit Go.Proofs.YtafmjhmpnlkeiaaW.PrintWords Go.Proofs.YtafmjhmpnlkeiaaW.PrintLast Go.Proofs.YtafmjhmpnlkeiaaW.PrintMore
attribute [local go_sem] max2_int min2_int max_two min_two max_three min_three max_four min_four   -- for this text's walks alone
set_option linter.unusedVariables false
set_option linter.unusedSimpArgs false

/-! ### igmp_query: function 23 -/
def igmp_query.j0 : Nat → Bool → Int → Int → Int → Int → Bool → Int → Int → List Int → List (S44) → Option (Bool)
  | 0, _, _, _, _, _, _, _, _, _, _ => none
  | k + 1, x3, x113000, x113001, x113002, x113003, x113004, x113005, x113006, x113007, x113008 => if x113001 = 1 then ((igmp_Same.f k x113000 x113001 x113002 x113003 x113004 x113005 x113006 x113007 x113008 17 1 0 0 false 0 0 ([] : List Int) ([] : List (S44))).bind fun t114 => (some t114)) else (if x113001 = 2 then (if x3 = true then (if x113002 > 0 then ((igmp_Same.f k x113000 x113001 x113002 x113003 x113004 x113005 x113006 x113007 x113008 17 2 x113002 x113003 false 0 0 ([] : List Int) ([] : List (S44))).bind fun t115 => (some t115)) else (some false)) else (some false)) else (if x113001 = 3 then (if x3 = true then (if x113005 ≤ 7 then (if (x113008.length : Int) = 0 then (if (x113007.length : Int) ≤ 64 then (if x113003 = 0 then (some ((x113007.length : Int) == 0)) else (some true)) else (some false)) else (some false)) else (some false)) else (some false)) else (some false)))
def igmp_query.f (k : Nat) (a0_0 : Int) (a0_1 : Int) (a0_2 : Int) (a0_3 : Int) (a0_4 : Bool) (a0_5 : Int) (a0_6 : Int) (l0_7 : List Int) (l0_8 : List (S44)) : Option (Bool) := if a0_3 = 0 then (igmp_query.j0 k true a0_0 a0_1 a0_2 a0_3 a0_4 a0_5 a0_6 l0_7 l0_8) else ((addr_IsAsked.f a0_3).bind fun t113 => (igmp_query.j0 k t113 a0_0 a0_1 a0_2 a0_3 a0_4 a0_5 a0_6 l0_7 l0_8))
theorem igmp_query.mono_l : ∀ k, (∀ y0 y1 y2 y3 y4 y5 y6 y7 y8 y9, LeO (igmp_query.j0 k y0 y1 y2 y3 y4 y5 y6 y7 y8 y9) (igmp_query.j0 (k + 1) y0 y1 y2 y3 y4 y5 y6 y7 y8 y9))
  | 0 => fun _ _ _ _ _ _ _ _ _ _ r h => by simp [igmp_query.j0] at h
  | k + 1 => by
    have ih0 := igmp_query.mono_l k
    · intro y0 y1 y2 y3 y4 y5 y6 y7 y8 y9
      unfold igmp_query.j0
      repeat' first
      | (with_reducible exact ih0 _ _ _ _ _ _ _ _ _ _)
      | (with_reducible exact igmp_Same.mono _ _ _ _ _ _ _ _ _ _ _ _ _ _ _ _ _ _ _)
      | (with_reducible exact LeO.refl _)
      | (with_reducible exact LeO.none _)
      | (with_reducible refine LeO.ite ?_ ?_)
      | (with_reducible refine LeO.bind ?_ (fun _ => ?_))
      | exact ih0 _ _ _ _ _ _ _ _ _ _
      | exact igmp_Same.mono _ _ _ _ _ _ _ _ _ _ _ _ _ _ _ _ _ _ _
      | exact LeO.none _
      | refine LeO.ite ?_ ?_
      | refine LeO.bind ?_ (fun _ => ?_)
theorem igmp_query.mono : ∀ a0 a1 a2 a3 a4 a5 a6 a7 a8 k, LeO (igmp_query.f k a0 a1 a2 a3 a4 a5 a6 a7 a8) (igmp_query.f (k + 1) a0 a1 a2 a3 a4 a5 a6 a7 a8) := by
  intro a0 a1 a2 a3 a4 a5 a6 a7 a8 k
  have ih0 := igmp_query.mono_l k
  unfold igmp_query.f
  repeat' first
      | (with_reducible exact ih0 _ _ _ _ _ _ _ _ _ _)
      | (with_reducible exact igmp_Same.mono _ _ _ _ _ _ _ _ _ _ _ _ _ _ _ _ _ _ _)
      | (with_reducible exact LeO.refl _)
      | (with_reducible exact LeO.none _)
      | (with_reducible refine LeO.ite ?_ ?_)
      | (with_reducible refine LeO.bind ?_ (fun _ => ?_))
      | exact ih0 _ _ _ _ _ _ _ _ _ _
      | exact igmp_Same.mono _ _ _ _ _ _ _ _ _ _ _ _ _ _ _ _ _ _ _
      | exact LeO.none _
      | refine LeO.ite ?_ ?_
      | refine LeO.bind ?_ (fun _ => ?_)
set_option maxHeartbeats 8000000 in
set_option maxRecDepth 100000 in
theorem igmp_query.calls (k : Nat) (a0_0 : Int) (a0_1 : Int) (a0_2 : Int) (a0_3 : Int) (a0_4 : Bool) (a0_5 : Int) (a0_6 : Int) (A0_7 : Option Addr) (c0_7 : Nat) (l0_7 : List Int) (A0_8 : Option Addr) (c0_8 : Nat) (l0_8 : List (S44)) (r : Bool) (w : World) (hr0_7 : Kd.C (Kd.int .u32) w A0_7 l0_7.length l0_7) (hc0_7 : l0_7.length ≤ c0_7) (hr0_8 : Kd.C k44 w A0_8 l0_8.length l0_8) (hc0_8 : l0_8.length ≤ c0_8) (h : igmp_query.f k a0_0 a0_1 a0_2 a0_3 a0_4 a0_5 a0_6 l0_7 l0_8 = some r) :
    Calls Try.prog 23 #[.agg #[.int .u8 a0_0, .int .i64 a0_1, .int .u8 a0_2, .int .u32 a0_3, .bool a0_4, .int .u8 a0_5, .int .u8 a0_6, .slice A0_7 l0_7.length c0_7, .slice A0_8 l0_8.length c0_8]] w fun e w' => e = .returned (.bool r) ∧ Below w.heap.size w w' := by
  have hu27 := Try.underlying27
  have HR0_7 := Aside0.mk hr0_7
  have HC0_7 := Aside0.mk hc0_7
  clear hr0_7 hc0_7
  have HR0_8 := Aside0.mk hr0_8
  have HC0_8 := Aside0.mk hc0_8
  clear hr0_8 hc0_8
  have HB := Aside0.mk (Below.refl w.heap.size w)
  have H : (if a0_3 = 0 then (igmp_query.j0 k true a0_0 a0_1 a0_2 a0_3 a0_4 a0_5 a0_6 l0_7 l0_8) else ((addr_IsAsked.f a0_3).bind fun t113 => (igmp_query.j0 k t113 a0_0 a0_1 a0_2 a0_3 a0_4 a0_5 a0_6 l0_7 l0_8))) = some r := h
  clear h
  have HC2 := Aside0.mk H
  clear H
  go_enter Try.func23, Try.ntmps23
  go_upto_region 1 with (first | ((with_reducible refine gate_dst (N := 1) rfl ?_); (try (refine gate_guard (by rfl) ?_; dsimp only)); refine box_event ?hg (N := 1) ?hd (cs := #[.int .u8 a0_0, .int .i64 a0_1, .int .u8 a0_2, .int .u32 a0_3, .bool a0_4, .int .u8 a0_5, .int .u8 a0_6, .slice A0_7 l0_7.length c0_7, .slice A0_8 l0_8.length c0_8]) (t := 27) ?hr ?_; (case hd => rfl); (case hg => rfl); (case hr => first | (go_simp; done) | (go_simp; rfl)); intro gb112 hg w3 hbox hb; have n0_ := Aside0.mk (below_step (by repeat (first | (with_reducible first | exact HB.out | apply below_alloc | apply pw_below_drewN | apply below_drew1) | exact HB.out)) hb); have n1_ := Aside0.mk (hbox); have n2_ := Aside0.mk ((by rw [hg]; exact (below_size (by repeat (first | (with_reducible first | exact HB.out | apply below_alloc | apply pw_below_drewN | apply below_drew1) | exact HB.out))) : w.heap.size ≤ gb112)); have n3_ := Aside0.mk ((by rw [hg]; exact (below_size (by repeat (first | (with_reducible first | exact HB.out | apply below_alloc | apply pw_below_drewN | apply below_drew1) | exact HB.out))) : w.heap.size ≤ gb112)); clear HB; have HB := n0_; have BK112 := n1_; have GW112 := n2_; have GE112 := n3_; clear n0_ n1_ n2_ n3_; clear hb hbox hg))
  (try simp only [Act.put, List.setIfInBounds_toArray, List.set_cons_zero, List.set_cons_succ])
  go_cut [3] (fun v3 wc => ∃ (kq : Nat) (x3_1 : Bool), v3 = .bool x3_1 ∧ Aside0 (igmp_query.j0 kq x3_1 a0_0 a0_1 a0_2 a0_3 a0_4 a0_5 a0_6 l0_7 l0_8 = some r) ∧ Aside0 (kq ≤ k) ∧ Aside0 (wc.heap[gb112]? = some (.cells #[.int .u8 a0_0, .int .i64 a0_1, .int .u8 a0_2, .int .u32 a0_3, .bool a0_4, .int .u8 a0_5, .int .u8 a0_6, (.slice A0_7 l0_7.length c0_7), (.slice A0_8 l0_8.length c0_8)] 27 (0, 0))) ∧ Aside0 (Below w.heap.size w wc))
  case first =>
    have H := HC2.out
    clear HC2
    by_cases c4 : a0_3 = 0
    · rw [if_pos c4] at H
      have c4b0 : (a0_3 == 0) = true := beq_iff_eq.mpr c4
      have c4b1 : (a0_3 != 0) = false := bne_eq_false_iff_eq.mpr c4
      clear c4
      (first | rw [c4b0] | (simp only [i64_w, i32_w]; rw [c4b0]) | skip)
      have H' := Aside0.mk H
      clear H
      have hcz5_0 : w3.cell? ⟨gb112, 0, none⟩ = some (.int .u8 a0_0) := (blk_cell BK112.out 0).trans rfl
      have hcz5_1 : w3.cell? ⟨gb112, 1, none⟩ = some (.int .i64 a0_1) := (blk_cell BK112.out 1).trans rfl
      have hcz5_2 : w3.cell? ⟨gb112, 2, none⟩ = some (.int .u8 a0_2) := (blk_cell BK112.out 2).trans rfl
      have hcz5_3 : w3.cell? ⟨gb112, 3, none⟩ = some (.int .u32 a0_3) := (blk_cell BK112.out 3).trans rfl
      have hcz5_4 : w3.cell? ⟨gb112, 4, none⟩ = some (.bool a0_4) := (blk_cell BK112.out 4).trans rfl
      have hcz5_5 : w3.cell? ⟨gb112, 5, none⟩ = some (.int .u8 a0_5) := (blk_cell BK112.out 5).trans rfl
      have hcz5_6 : w3.cell? ⟨gb112, 6, none⟩ = some (.int .u8 a0_6) := (blk_cell BK112.out 6).trans rfl
      have hcz5_7 : w3.cell? ⟨gb112, 7, none⟩ = some (.slice A0_7 l0_7.length c0_7) := (blk_cell BK112.out 7).trans rfl
      have hcz5_8 : w3.cell? ⟨gb112, 8, none⟩ = some (.slice A0_8 l0_8.length c0_8) := (blk_cell BK112.out 8).trans rfl
      have hfz5_0 := blk_frozen BK112.out 0
      have hfz5_1 := blk_frozen BK112.out 1
      have hfz5_2 := blk_frozen BK112.out 2
      have hfz5_3 := blk_frozen BK112.out 3
      have hfz5_4 := blk_frozen BK112.out 4
      have hfz5_5 := blk_frozen BK112.out 5
      have hfz5_6 := blk_frozen BK112.out 6
      have hfz5_7 := blk_frozen BK112.out 7
      have hfz5_8 := blk_frozen BK112.out 8
      go_wp2
      go_meet
      case rel => exact ⟨_, (true), (by first | rfl | (simp; done) | (simp [*]; done)), H', ⟨by first | omega | exact Nat.le_refl _⟩, ⟨by (with_reducible repeat (first | refine blk_drewN ?_ _ | refine blk_drew ?_ | refine blk_alloc ?_ _)); exact BK112.out⟩, ⟨by repeat (first | (with_reducible first | exact HB.out | apply below_alloc | apply pw_below_drewN | apply below_drew1 | refine below_set ?_ GE112.out) | exact HB.out)⟩⟩
    · rw [if_neg c4] at H
      have c4b0 : (a0_3 == 0) = false := beq_eq_false_iff_ne.mpr c4
      have c4b1 : (a0_3 != 0) = true := bne_iff_ne.mpr c4
      (first | rw [c4b0] | (simp only [i64_w, i32_w]; rw [c4b0]) | skip)
      replace H := Option.bind_eq_some_iff.mp H
      obtain ⟨t113, A60, H⟩ := H
      replace H : (igmp_query.j0 k t113 a0_0 a0_1 a0_2 a0_3 a0_4 a0_5 a0_6 l0_7 l0_8) = some r := H
      have A6 := Aside0.mk A60
      clear A60
      have H' := Aside0.mk H
      clear H
      have hcz7_0 : w3.cell? ⟨gb112, 0, none⟩ = some (.int .u8 a0_0) := (blk_cell BK112.out 0).trans rfl
      have hcz7_1 : w3.cell? ⟨gb112, 1, none⟩ = some (.int .i64 a0_1) := (blk_cell BK112.out 1).trans rfl
      have hcz7_2 : w3.cell? ⟨gb112, 2, none⟩ = some (.int .u8 a0_2) := (blk_cell BK112.out 2).trans rfl
      have hcz7_3 : w3.cell? ⟨gb112, 3, none⟩ = some (.int .u32 a0_3) := (blk_cell BK112.out 3).trans rfl
      have hcz7_4 : w3.cell? ⟨gb112, 4, none⟩ = some (.bool a0_4) := (blk_cell BK112.out 4).trans rfl
      have hcz7_5 : w3.cell? ⟨gb112, 5, none⟩ = some (.int .u8 a0_5) := (blk_cell BK112.out 5).trans rfl
      have hcz7_6 : w3.cell? ⟨gb112, 6, none⟩ = some (.int .u8 a0_6) := (blk_cell BK112.out 6).trans rfl
      have hcz7_7 : w3.cell? ⟨gb112, 7, none⟩ = some (.slice A0_7 l0_7.length c0_7) := (blk_cell BK112.out 7).trans rfl
      have hcz7_8 : w3.cell? ⟨gb112, 8, none⟩ = some (.slice A0_8 l0_8.length c0_8) := (blk_cell BK112.out 8).trans rfl
      have hfz7_0 := blk_frozen BK112.out 0
      have hfz7_1 := blk_frozen BK112.out 1
      have hfz7_2 := blk_frozen BK112.out 2
      have hfz7_3 := blk_frozen BK112.out 3
      have hfz7_4 := blk_frozen BK112.out 4
      have hfz7_5 := blk_frozen BK112.out 5
      have hfz7_6 := blk_frozen BK112.out 6
      have hfz7_7 := blk_frozen BK112.out 7
      have hfz7_8 := blk_frozen BK112.out 8
      go_wp2_with (first | (go_at_call 24; (with_reducible refine (addr_IsAsked.calls a0_3 t113 _ A6.out).mono ?_); rintro e w' ⟨rfl, ⟨nd, rfl⟩⟩))
      go_meet
      case rel => exact ⟨_, (t113), (by first | rfl | (simp; done) | (simp [*]; done)), H', ⟨by first | omega | exact Nat.le_refl _⟩, ⟨by (with_reducible repeat (first | refine blk_drewN ?_ _ | refine blk_drew ?_ | refine blk_alloc ?_ _)); exact BK112.out⟩, ⟨by repeat (first | (with_reducible first | exact HB.out | apply below_alloc | apply pw_below_drewN | apply below_drew1 | refine below_set ?_ GE112.out) | exact HB.out)⟩⟩
  case rest =>
    clear HC2
    try clear c2
    try clear p2
    try clear c4
    try clear c4b0
    try clear c4b1
    try clear hcz5_0
    try clear hcz5_1
    try clear hcz5_2
    try clear hcz5_3
    try clear hcz5_4
    try clear hcz5_5
    try clear hcz5_6
    try clear hcz5_7
    try clear hcz5_8
    try clear hcz7_0
    try clear hcz7_1
    try clear hcz7_2
    try clear hcz7_3
    try clear hcz7_4
    try clear hcz7_5
    try clear hcz7_6
    try clear hcz7_7
    try clear hcz7_8
    try clear hfz5_0
    try clear hfz5_1
    try clear hfz5_2
    try clear hfz5_3
    try clear hfz5_4
    try clear hfz5_5
    try clear hfz5_6
    try clear hfz5_7
    try clear hfz5_8
    try clear hfz7_0
    try clear hfz7_1
    try clear hfz7_2
    try clear hfz7_3
    try clear hfz7_4
    try clear hfz7_5
    try clear hfz7_6
    try clear hfz7_7
    try clear hfz7_8
    obtain ⟨kq, x3_1, rfl, HA, HJ1, BK112, HB⟩ := hcut
    cases kq with
    | zero => exact absurd HA.out (by simp [igmp_query.j0])
    | succ kj1 =>
      have H := HA.out
      clear HA
      simp only [igmp_query.j0] at H
      by_cases c8 : a0_1 = 1
      · rw [if_pos c8] at H
        have c8b0 : (a0_1 == 1) = true := beq_iff_eq.mpr c8
        have c8b1 : (a0_1 != 1) = false := bne_eq_false_iff_eq.mpr c8
        clear c8
        replace H := Option.bind_eq_some_iff.mp H
        obtain ⟨t114, A90, H⟩ := H
        replace H : (some t114) = some r := H
        have A9 := Aside0.mk A90
        clear A90
        obtain rfl := Option.some.inj H
        have hcz10_0 : wc.cell? ⟨gb112, 0, none⟩ = some (.int .u8 a0_0) := (blk_cell BK112.out 0).trans rfl
        have hcz10_1 : wc.cell? ⟨gb112, 1, none⟩ = some (.int .i64 a0_1) := (blk_cell BK112.out 1).trans rfl
        have hcz10_2 : wc.cell? ⟨gb112, 2, none⟩ = some (.int .u8 a0_2) := (blk_cell BK112.out 2).trans rfl
        have hcz10_3 : wc.cell? ⟨gb112, 3, none⟩ = some (.int .u32 a0_3) := (blk_cell BK112.out 3).trans rfl
        have hcz10_4 : wc.cell? ⟨gb112, 4, none⟩ = some (.bool a0_4) := (blk_cell BK112.out 4).trans rfl
        have hcz10_5 : wc.cell? ⟨gb112, 5, none⟩ = some (.int .u8 a0_5) := (blk_cell BK112.out 5).trans rfl
        have hcz10_6 : wc.cell? ⟨gb112, 6, none⟩ = some (.int .u8 a0_6) := (blk_cell BK112.out 6).trans rfl
        have hcz10_7 : wc.cell? ⟨gb112, 7, none⟩ = some (.slice A0_7 l0_7.length c0_7) := (blk_cell BK112.out 7).trans rfl
        have hcz10_8 : wc.cell? ⟨gb112, 8, none⟩ = some (.slice A0_8 l0_8.length c0_8) := (blk_cell BK112.out 8).trans rfl
        have hfz10_0 := blk_frozen BK112.out 0
        have hfz10_1 := blk_frozen BK112.out 1
        have hfz10_2 := blk_frozen BK112.out 2
        have hfz10_3 := blk_frozen BK112.out 3
        have hfz10_4 := blk_frozen BK112.out 4
        have hfz10_5 := blk_frozen BK112.out 5
        have hfz10_6 := blk_frozen BK112.out 6
        have hfz10_7 := blk_frozen BK112.out 7
        have hfz10_8 := blk_frozen BK112.out 8
        go_wp2_with (first | ((with_reducible refine gate_callee (f := 12) rfl ?_); refine goesL_ (some 18) rfl rfl Try.func12 (by kernel_rfl) rfl #[.agg #[.int .u8 a0_0, .int .i64 a0_1, .int .u8 a0_2, .int .u32 a0_3, .bool a0_4, .int .u8 a0_5, .int .u8 a0_6, .slice A0_7 l0_7.length c0_7, .slice A0_8 l0_8.length c0_8], .agg #[.int .u8 17, .int .i64 1, .int .u8 0, .int .u32 0, .bool false, .int .u8 0, .int .u8 0, .slice none 0 0, .slice none 0 0]] rfl (by (try simp only [List.map_toArray, List.map_cons, List.map_nil]); first | done | rfl | (simp only [List.length_drop, List.length_take]; rfl)) ?_; (refine (igmp_Same.calls kj1 a0_0 a0_1 a0_2 a0_3 a0_4 a0_5 a0_6 _ _ l0_7 _ _ l0_8 17 1 0 0 false 0 0 _ _ ([] : List Int) _ _ ([] : List (S44)) t114 _ ?side1 ?side2 ?side3 ?side4 ?side5 ?side6 ?side7 ?side8 A9.out).mono ?_); (case side1 => repeat (first | exact (Kd.C_below HR0_7.out HB.out) | (with_reducible refine Kd.C_alloc ?_ _) | (with_reducible refine Kd.C_drewN ?_ _) | (with_reducible refine Kd.C_drew ?_))); (case side2 => exact HC0_7.out); (case side3 => repeat (first | exact (Kd.C_below HR0_8.out HB.out) | (with_reducible refine Kd.C_alloc ?_ _) | (with_reducible refine Kd.C_drewN ?_ _) | (with_reducible refine Kd.C_drew ?_))); (case side4 => exact HC0_8.out); (case side5 => exact Kd.C_nil _ _); (case side6 => exact Nat.le_refl _); (case side7 => exact Kd.C_nil _ _); (case side8 => exact Nat.le_refl _); rintro e w11 ⟨rfl, hb⟩; refine ⟨_, rfl, ?_⟩; have n0_ := Aside0.mk (blk_below (g := gb112) (o := .cells #[.int .u8 a0_0, .int .i64 a0_1, .int .u8 a0_2, .int .u32 a0_3, .bool a0_4, .int .u8 a0_5, .int .u8 a0_6, .slice A0_7 l0_7.length c0_7, .slice A0_8 l0_8.length c0_8] 27 (0, 0)) (by (with_reducible repeat (first | refine blk_drewN ?_ _ | refine blk_drew ?_ | refine blk_alloc ?_ _)); exact BK112.out) hb); have n1_ := Aside0.mk (below_step (by repeat (first | (with_reducible first | exact HB.out | apply below_alloc | apply pw_below_drewN | apply below_drew1 | refine below_set ?_ GE112.out) | exact HB.out)) hb); clear BK112; clear HB; have BK112 := n0_; have HB := n1_; clear n0_ n1_; (try clear hb); (try clear hb2); (try clear hk); (try clear hi)))
        go_ret
        exact ⟨by first | rfl | (simp [errW_none, errW_some] <;> rfl) | (simp [*, errW_none, errW_some] <;> rfl), by repeat (first | (with_reducible first | exact HB.out | apply below_alloc | apply pw_below_drewN | apply below_drew1 | refine below_set ?_ GE112.out) | exact HB.out)⟩
      · rw [if_neg c8] at H
        have c8b0 : (a0_1 == 1) = false := beq_eq_false_iff_ne.mpr c8
        have c8b1 : (a0_1 != 1) = true := bne_iff_ne.mpr c8
        by_cases c12 : a0_1 = 2
        · rw [if_pos c12] at H
          have c12b0 : (a0_1 == 2) = true := beq_iff_eq.mpr c12
          have c12b1 : (a0_1 != 2) = false := bne_eq_false_iff_eq.mpr c12
          clear c12
          by_cases c13 : x3_1 = true
          · subst c13
            have H1 : (if a0_2 > 0 then ((igmp_Same.f kj1 a0_0 a0_1 a0_2 a0_3 a0_4 a0_5 a0_6 l0_7 l0_8 17 2 a0_2 a0_3 false 0 0 ([] : List Int) ([] : List (S44))).bind fun t115 => (some t115)) else (some false)) = some r := by rw [if_pos rfl] at H; exact H
            clear H
            have H := H1
            clear H1
            by_cases c14 : a0_2 > 0
            · rw [if_pos c14] at H
              have c14b0 : decide (0 < a0_2) = true := decide_eq_true c14
              clear c14
              replace H := Option.bind_eq_some_iff.mp H
              obtain ⟨t115, A150, H⟩ := H
              replace H : (some t115) = some r := H
              have A15 := Aside0.mk A150
              clear A150
              obtain rfl := Option.some.inj H
              have hcz16_0 : wc.cell? ⟨gb112, 0, none⟩ = some (.int .u8 a0_0) := (blk_cell BK112.out 0).trans rfl
              have hcz16_1 : wc.cell? ⟨gb112, 1, none⟩ = some (.int .i64 a0_1) := (blk_cell BK112.out 1).trans rfl
              have hcz16_2 : wc.cell? ⟨gb112, 2, none⟩ = some (.int .u8 a0_2) := (blk_cell BK112.out 2).trans rfl
              have hcz16_3 : wc.cell? ⟨gb112, 3, none⟩ = some (.int .u32 a0_3) := (blk_cell BK112.out 3).trans rfl
              have hcz16_4 : wc.cell? ⟨gb112, 4, none⟩ = some (.bool a0_4) := (blk_cell BK112.out 4).trans rfl
              have hcz16_5 : wc.cell? ⟨gb112, 5, none⟩ = some (.int .u8 a0_5) := (blk_cell BK112.out 5).trans rfl
              have hcz16_6 : wc.cell? ⟨gb112, 6, none⟩ = some (.int .u8 a0_6) := (blk_cell BK112.out 6).trans rfl
              have hcz16_7 : wc.cell? ⟨gb112, 7, none⟩ = some (.slice A0_7 l0_7.length c0_7) := (blk_cell BK112.out 7).trans rfl
              have hcz16_8 : wc.cell? ⟨gb112, 8, none⟩ = some (.slice A0_8 l0_8.length c0_8) := (blk_cell BK112.out 8).trans rfl
              have hfz16_0 := blk_frozen BK112.out 0
              have hfz16_1 := blk_frozen BK112.out 1
              have hfz16_2 := blk_frozen BK112.out 2
              have hfz16_3 := blk_frozen BK112.out 3
              have hfz16_4 := blk_frozen BK112.out 4
              have hfz16_5 := blk_frozen BK112.out 5
              have hfz16_6 := blk_frozen BK112.out 6
              have hfz16_7 := blk_frozen BK112.out 7
              have hfz16_8 := blk_frozen BK112.out 8
              go_wp2_with (first | (go_at_call 12; (refine (igmp_Same.calls kj1 a0_0 a0_1 a0_2 a0_3 a0_4 a0_5 a0_6 _ _ l0_7 _ _ l0_8 17 2 a0_2 a0_3 false 0 0 _ _ ([] : List Int) _ _ ([] : List (S44)) t115 _ ?side1 ?side2 ?side3 ?side4 ?side5 ?side6 ?side7 ?side8 A15.out).mono ?_); (case side1 => repeat (first | exact (Kd.C_below HR0_7.out HB.out) | (with_reducible refine Kd.C_alloc ?_ _) | (with_reducible refine Kd.C_drewN ?_ _) | (with_reducible refine Kd.C_drew ?_))); (case side2 => exact HC0_7.out); (case side3 => repeat (first | exact (Kd.C_below HR0_8.out HB.out) | (with_reducible refine Kd.C_alloc ?_ _) | (with_reducible refine Kd.C_drewN ?_ _) | (with_reducible refine Kd.C_drew ?_))); (case side4 => exact HC0_8.out); (case side5 => exact Kd.C_nil _ _); (case side6 => exact Nat.le_refl _); (case side7 => exact Kd.C_nil _ _); (case side8 => exact Nat.le_refl _); rintro e w17 ⟨rfl, hb⟩; have n0_ := Aside0.mk (blk_below (g := gb112) (o := .cells #[.int .u8 a0_0, .int .i64 a0_1, .int .u8 a0_2, .int .u32 a0_3, .bool a0_4, .int .u8 a0_5, .int .u8 a0_6, .slice A0_7 l0_7.length c0_7, .slice A0_8 l0_8.length c0_8] 27 (0, 0)) (by (with_reducible repeat (first | refine blk_drewN ?_ _ | refine blk_drew ?_ | refine blk_alloc ?_ _)); exact BK112.out) hb); have n1_ := Aside0.mk (below_step (by repeat (first | (with_reducible first | exact HB.out | apply below_alloc | apply pw_below_drewN | apply below_drew1 | refine below_set ?_ GE112.out) | exact HB.out)) hb); clear BK112; clear HB; have BK112 := n0_; have HB := n1_; clear n0_ n1_; (try clear hb); (try clear hb2); (try clear hk); (try clear hi)))
              go_ret
              exact ⟨by first | rfl | (simp [errW_none, errW_some] <;> rfl) | (simp [*, errW_none, errW_some] <;> rfl), by repeat (first | (with_reducible first | exact HB.out | apply below_alloc | apply pw_below_drewN | apply below_drew1 | refine below_set ?_ GE112.out) | exact HB.out)⟩
            · rw [if_neg c14] at H
              have c14b0 : decide (0 < a0_2) = false := decide_eq_false c14
              clear c14
              obtain rfl := Option.some.inj H
              have hcz18_0 : wc.cell? ⟨gb112, 0, none⟩ = some (.int .u8 a0_0) := (blk_cell BK112.out 0).trans rfl
              have hcz18_1 : wc.cell? ⟨gb112, 1, none⟩ = some (.int .i64 a0_1) := (blk_cell BK112.out 1).trans rfl
              have hcz18_2 : wc.cell? ⟨gb112, 2, none⟩ = some (.int .u8 a0_2) := (blk_cell BK112.out 2).trans rfl
              have hcz18_3 : wc.cell? ⟨gb112, 3, none⟩ = some (.int .u32 a0_3) := (blk_cell BK112.out 3).trans rfl
              have hcz18_4 : wc.cell? ⟨gb112, 4, none⟩ = some (.bool a0_4) := (blk_cell BK112.out 4).trans rfl
              have hcz18_5 : wc.cell? ⟨gb112, 5, none⟩ = some (.int .u8 a0_5) := (blk_cell BK112.out 5).trans rfl
              have hcz18_6 : wc.cell? ⟨gb112, 6, none⟩ = some (.int .u8 a0_6) := (blk_cell BK112.out 6).trans rfl
              have hcz18_7 : wc.cell? ⟨gb112, 7, none⟩ = some (.slice A0_7 l0_7.length c0_7) := (blk_cell BK112.out 7).trans rfl
              have hcz18_8 : wc.cell? ⟨gb112, 8, none⟩ = some (.slice A0_8 l0_8.length c0_8) := (blk_cell BK112.out 8).trans rfl
              have hfz18_0 := blk_frozen BK112.out 0
              have hfz18_1 := blk_frozen BK112.out 1
              have hfz18_2 := blk_frozen BK112.out 2
              have hfz18_3 := blk_frozen BK112.out 3
              have hfz18_4 := blk_frozen BK112.out 4
              have hfz18_5 := blk_frozen BK112.out 5
              have hfz18_6 := blk_frozen BK112.out 6
              have hfz18_7 := blk_frozen BK112.out 7
              have hfz18_8 := blk_frozen BK112.out 8
              go_wp2
              go_ret
              exact ⟨by first | rfl | (simp [errW_none, errW_some] <;> rfl) | (simp [*, errW_none, errW_some] <;> rfl), by repeat (first | (with_reducible first | exact HB.out | apply below_alloc | apply pw_below_drewN | apply below_drew1 | refine below_set ?_ GE112.out) | exact HB.out)⟩
          · replace c13 := Bool.eq_false_iff.mpr c13
            subst c13
            have H1 : (some false) = some r := by rw [if_neg (show ¬ (false = true) by decide)] at H; exact H
            clear H
            have H := H1
            clear H1
            obtain rfl := Option.some.inj H
            have hcz19_0 : wc.cell? ⟨gb112, 0, none⟩ = some (.int .u8 a0_0) := (blk_cell BK112.out 0).trans rfl
            have hcz19_1 : wc.cell? ⟨gb112, 1, none⟩ = some (.int .i64 a0_1) := (blk_cell BK112.out 1).trans rfl
            have hcz19_2 : wc.cell? ⟨gb112, 2, none⟩ = some (.int .u8 a0_2) := (blk_cell BK112.out 2).trans rfl
            have hcz19_3 : wc.cell? ⟨gb112, 3, none⟩ = some (.int .u32 a0_3) := (blk_cell BK112.out 3).trans rfl
            have hcz19_4 : wc.cell? ⟨gb112, 4, none⟩ = some (.bool a0_4) := (blk_cell BK112.out 4).trans rfl
            have hcz19_5 : wc.cell? ⟨gb112, 5, none⟩ = some (.int .u8 a0_5) := (blk_cell BK112.out 5).trans rfl
            have hcz19_6 : wc.cell? ⟨gb112, 6, none⟩ = some (.int .u8 a0_6) := (blk_cell BK112.out 6).trans rfl
            have hcz19_7 : wc.cell? ⟨gb112, 7, none⟩ = some (.slice A0_7 l0_7.length c0_7) := (blk_cell BK112.out 7).trans rfl
            have hcz19_8 : wc.cell? ⟨gb112, 8, none⟩ = some (.slice A0_8 l0_8.length c0_8) := (blk_cell BK112.out 8).trans rfl
            have hfz19_0 := blk_frozen BK112.out 0
            have hfz19_1 := blk_frozen BK112.out 1
            have hfz19_2 := blk_frozen BK112.out 2
            have hfz19_3 := blk_frozen BK112.out 3
            have hfz19_4 := blk_frozen BK112.out 4
            have hfz19_5 := blk_frozen BK112.out 5
            have hfz19_6 := blk_frozen BK112.out 6
            have hfz19_7 := blk_frozen BK112.out 7
            have hfz19_8 := blk_frozen BK112.out 8
            go_wp2
            go_ret
            exact ⟨by first | rfl | (simp [errW_none, errW_some] <;> rfl) | (simp [*, errW_none, errW_some] <;> rfl), by repeat (first | (with_reducible first | exact HB.out | apply below_alloc | apply pw_below_drewN | apply below_drew1 | refine below_set ?_ GE112.out) | exact HB.out)⟩
        · rw [if_neg c12] at H
          have c12b0 : (a0_1 == 2) = false := beq_eq_false_iff_ne.mpr c12
          have c12b1 : (a0_1 != 2) = true := bne_iff_ne.mpr c12
          by_cases c20 : a0_1 = 3
          · rw [if_pos c20] at H
            have c20b0 : (a0_1 == 3) = true := beq_iff_eq.mpr c20
            have c20b1 : (a0_1 != 3) = false := bne_eq_false_iff_eq.mpr c20
            clear c20
            by_cases c21 : x3_1 = true
            · subst c21
              have H1 : (if a0_5 ≤ 7 then (if (l0_8.length : Int) = 0 then (if (l0_7.length : Int) ≤ 64 then (if a0_3 = 0 then (some ((l0_7.length : Int) == 0)) else (some true)) else (some false)) else (some false)) else (some false)) = some r := by rw [if_pos rfl] at H; exact H
              clear H
              have H := H1
              clear H1
              by_cases c22 : a0_5 ≤ 7
              · rw [if_pos c22] at H
                have c22b0 : decide (a0_5 ≤ 7) = true := decide_eq_true c22
                clear c22
                by_cases c23 : (l0_8.length : Int) = 0
                · rw [if_pos c23] at H
                  have c23b0 : ((l0_8.length : Int) == 0) = true := beq_iff_eq.mpr c23
                  have c23b1 : ((l0_8.length : Int) != 0) = false := bne_eq_false_iff_eq.mpr c23
                  clear c23
                  by_cases c24 : (l0_7.length : Int) ≤ 64
                  · rw [if_pos c24] at H
                    have c24b0 : decide ((l0_7.length : Int) ≤ 64) = true := decide_eq_true c24
                    have c24b1 : decide (l0_7.length ≤ 64) = true := decide_eq_true (by omega)
                    clear c24
                    by_cases c25 : a0_3 = 0
                    · rw [if_pos c25] at H
                      have c25b0 : (a0_3 == 0) = true := beq_iff_eq.mpr c25
                      have c25b1 : (a0_3 != 0) = false := bne_eq_false_iff_eq.mpr c25
                      clear c25
                      obtain rfl := Option.some.inj H
                      have hcz26_0 : wc.cell? ⟨gb112, 0, none⟩ = some (.int .u8 a0_0) := (blk_cell BK112.out 0).trans rfl
                      have hcz26_1 : wc.cell? ⟨gb112, 1, none⟩ = some (.int .i64 a0_1) := (blk_cell BK112.out 1).trans rfl
                      have hcz26_2 : wc.cell? ⟨gb112, 2, none⟩ = some (.int .u8 a0_2) := (blk_cell BK112.out 2).trans rfl
                      have hcz26_3 : wc.cell? ⟨gb112, 3, none⟩ = some (.int .u32 a0_3) := (blk_cell BK112.out 3).trans rfl
                      have hcz26_4 : wc.cell? ⟨gb112, 4, none⟩ = some (.bool a0_4) := (blk_cell BK112.out 4).trans rfl
                      have hcz26_5 : wc.cell? ⟨gb112, 5, none⟩ = some (.int .u8 a0_5) := (blk_cell BK112.out 5).trans rfl
                      have hcz26_6 : wc.cell? ⟨gb112, 6, none⟩ = some (.int .u8 a0_6) := (blk_cell BK112.out 6).trans rfl
                      have hcz26_7 : wc.cell? ⟨gb112, 7, none⟩ = some (.slice A0_7 l0_7.length c0_7) := (blk_cell BK112.out 7).trans rfl
                      have hcz26_8 : wc.cell? ⟨gb112, 8, none⟩ = some (.slice A0_8 l0_8.length c0_8) := (blk_cell BK112.out 8).trans rfl
                      have hfz26_0 := blk_frozen BK112.out 0
                      have hfz26_1 := blk_frozen BK112.out 1
                      have hfz26_2 := blk_frozen BK112.out 2
                      have hfz26_3 := blk_frozen BK112.out 3
                      have hfz26_4 := blk_frozen BK112.out 4
                      have hfz26_5 := blk_frozen BK112.out 5
                      have hfz26_6 := blk_frozen BK112.out 6
                      have hfz26_7 := blk_frozen BK112.out 7
                      have hfz26_8 := blk_frozen BK112.out 8
                      go_wp2
                      go_ret
                      exact ⟨by first | rfl | (simp [errW_none, errW_some] <;> rfl) | (simp [*, errW_none, errW_some] <;> rfl), by repeat (first | (with_reducible first | exact HB.out | apply below_alloc | apply pw_below_drewN | apply below_drew1 | refine below_set ?_ GE112.out) | exact HB.out)⟩
                    · rw [if_neg c25] at H
                      have c25b0 : (a0_3 == 0) = false := beq_eq_false_iff_ne.mpr c25
                      have c25b1 : (a0_3 != 0) = true := bne_iff_ne.mpr c25
                      obtain rfl := Option.some.inj H
                      have hcz27_0 : wc.cell? ⟨gb112, 0, none⟩ = some (.int .u8 a0_0) := (blk_cell BK112.out 0).trans rfl
                      have hcz27_1 : wc.cell? ⟨gb112, 1, none⟩ = some (.int .i64 a0_1) := (blk_cell BK112.out 1).trans rfl
                      have hcz27_2 : wc.cell? ⟨gb112, 2, none⟩ = some (.int .u8 a0_2) := (blk_cell BK112.out 2).trans rfl
                      have hcz27_3 : wc.cell? ⟨gb112, 3, none⟩ = some (.int .u32 a0_3) := (blk_cell BK112.out 3).trans rfl
                      have hcz27_4 : wc.cell? ⟨gb112, 4, none⟩ = some (.bool a0_4) := (blk_cell BK112.out 4).trans rfl
                      have hcz27_5 : wc.cell? ⟨gb112, 5, none⟩ = some (.int .u8 a0_5) := (blk_cell BK112.out 5).trans rfl
                      have hcz27_6 : wc.cell? ⟨gb112, 6, none⟩ = some (.int .u8 a0_6) := (blk_cell BK112.out 6).trans rfl
                      have hcz27_7 : wc.cell? ⟨gb112, 7, none⟩ = some (.slice A0_7 l0_7.length c0_7) := (blk_cell BK112.out 7).trans rfl
                      have hcz27_8 : wc.cell? ⟨gb112, 8, none⟩ = some (.slice A0_8 l0_8.length c0_8) := (blk_cell BK112.out 8).trans rfl
                      have hfz27_0 := blk_frozen BK112.out 0
                      have hfz27_1 := blk_frozen BK112.out 1
                      have hfz27_2 := blk_frozen BK112.out 2
                      have hfz27_3 := blk_frozen BK112.out 3
                      have hfz27_4 := blk_frozen BK112.out 4
                      have hfz27_5 := blk_frozen BK112.out 5
                      have hfz27_6 := blk_frozen BK112.out 6
                      have hfz27_7 := blk_frozen BK112.out 7
                      have hfz27_8 := blk_frozen BK112.out 8
                      go_wp2
                      go_ret
                      exact ⟨by first | rfl | (simp [errW_none, errW_some] <;> rfl) | (simp [*, errW_none, errW_some] <;> rfl), by repeat (first | (with_reducible first | exact HB.out | apply below_alloc | apply pw_below_drewN | apply below_drew1 | refine below_set ?_ GE112.out) | exact HB.out)⟩
                  · rw [if_neg c24] at H
                    have c24b0 : decide ((l0_7.length : Int) ≤ 64) = false := decide_eq_false c24
                    have c24b1 : decide (l0_7.length ≤ 64) = false := decide_eq_false (by omega)
                    clear c24
                    obtain rfl := Option.some.inj H
                    have hcz28_0 : wc.cell? ⟨gb112, 0, none⟩ = some (.int .u8 a0_0) := (blk_cell BK112.out 0).trans rfl
                    have hcz28_1 : wc.cell? ⟨gb112, 1, none⟩ = some (.int .i64 a0_1) := (blk_cell BK112.out 1).trans rfl
                    have hcz28_2 : wc.cell? ⟨gb112, 2, none⟩ = some (.int .u8 a0_2) := (blk_cell BK112.out 2).trans rfl
                    have hcz28_3 : wc.cell? ⟨gb112, 3, none⟩ = some (.int .u32 a0_3) := (blk_cell BK112.out 3).trans rfl
                    have hcz28_4 : wc.cell? ⟨gb112, 4, none⟩ = some (.bool a0_4) := (blk_cell BK112.out 4).trans rfl
                    have hcz28_5 : wc.cell? ⟨gb112, 5, none⟩ = some (.int .u8 a0_5) := (blk_cell BK112.out 5).trans rfl
                    have hcz28_6 : wc.cell? ⟨gb112, 6, none⟩ = some (.int .u8 a0_6) := (blk_cell BK112.out 6).trans rfl
                    have hcz28_7 : wc.cell? ⟨gb112, 7, none⟩ = some (.slice A0_7 l0_7.length c0_7) := (blk_cell BK112.out 7).trans rfl
                    have hcz28_8 : wc.cell? ⟨gb112, 8, none⟩ = some (.slice A0_8 l0_8.length c0_8) := (blk_cell BK112.out 8).trans rfl
                    have hfz28_0 := blk_frozen BK112.out 0
                    have hfz28_1 := blk_frozen BK112.out 1
                    have hfz28_2 := blk_frozen BK112.out 2
                    have hfz28_3 := blk_frozen BK112.out 3
                    have hfz28_4 := blk_frozen BK112.out 4
                    have hfz28_5 := blk_frozen BK112.out 5
                    have hfz28_6 := blk_frozen BK112.out 6
                    have hfz28_7 := blk_frozen BK112.out 7
                    have hfz28_8 := blk_frozen BK112.out 8
                    go_wp2
                    go_ret
                    exact ⟨by first | rfl | (simp [errW_none, errW_some] <;> rfl) | (simp [*, errW_none, errW_some] <;> rfl), by repeat (first | (with_reducible first | exact HB.out | apply below_alloc | apply pw_below_drewN | apply below_drew1 | refine below_set ?_ GE112.out) | exact HB.out)⟩
                · rw [if_neg c23] at H
                  have c23b0 : ((l0_8.length : Int) == 0) = false := beq_eq_false_iff_ne.mpr c23
                  have c23b1 : ((l0_8.length : Int) != 0) = true := bne_iff_ne.mpr c23
                  have c23b2 : ¬ (l0_8 = []) := fun h_ => c23 (by rw [h_]; rfl)
                  obtain rfl := Option.some.inj H
                  have hcz29_0 : wc.cell? ⟨gb112, 0, none⟩ = some (.int .u8 a0_0) := (blk_cell BK112.out 0).trans rfl
                  have hcz29_1 : wc.cell? ⟨gb112, 1, none⟩ = some (.int .i64 a0_1) := (blk_cell BK112.out 1).trans rfl
                  have hcz29_2 : wc.cell? ⟨gb112, 2, none⟩ = some (.int .u8 a0_2) := (blk_cell BK112.out 2).trans rfl
                  have hcz29_3 : wc.cell? ⟨gb112, 3, none⟩ = some (.int .u32 a0_3) := (blk_cell BK112.out 3).trans rfl
                  have hcz29_4 : wc.cell? ⟨gb112, 4, none⟩ = some (.bool a0_4) := (blk_cell BK112.out 4).trans rfl
                  have hcz29_5 : wc.cell? ⟨gb112, 5, none⟩ = some (.int .u8 a0_5) := (blk_cell BK112.out 5).trans rfl
                  have hcz29_6 : wc.cell? ⟨gb112, 6, none⟩ = some (.int .u8 a0_6) := (blk_cell BK112.out 6).trans rfl
                  have hcz29_7 : wc.cell? ⟨gb112, 7, none⟩ = some (.slice A0_7 l0_7.length c0_7) := (blk_cell BK112.out 7).trans rfl
                  have hcz29_8 : wc.cell? ⟨gb112, 8, none⟩ = some (.slice A0_8 l0_8.length c0_8) := (blk_cell BK112.out 8).trans rfl
                  have hfz29_0 := blk_frozen BK112.out 0
                  have hfz29_1 := blk_frozen BK112.out 1
                  have hfz29_2 := blk_frozen BK112.out 2
                  have hfz29_3 := blk_frozen BK112.out 3
                  have hfz29_4 := blk_frozen BK112.out 4
                  have hfz29_5 := blk_frozen BK112.out 5
                  have hfz29_6 := blk_frozen BK112.out 6
                  have hfz29_7 := blk_frozen BK112.out 7
                  have hfz29_8 := blk_frozen BK112.out 8
                  go_wp2
                  go_ret
                  exact ⟨by first | rfl | (simp [errW_none, errW_some] <;> rfl) | (simp [*, errW_none, errW_some] <;> rfl), by repeat (first | (with_reducible first | exact HB.out | apply below_alloc | apply pw_below_drewN | apply below_drew1 | refine below_set ?_ GE112.out) | exact HB.out)⟩
              · rw [if_neg c22] at H
                have c22b0 : decide (a0_5 ≤ 7) = false := decide_eq_false c22
                clear c22
                obtain rfl := Option.some.inj H
                have hcz30_0 : wc.cell? ⟨gb112, 0, none⟩ = some (.int .u8 a0_0) := (blk_cell BK112.out 0).trans rfl
                have hcz30_1 : wc.cell? ⟨gb112, 1, none⟩ = some (.int .i64 a0_1) := (blk_cell BK112.out 1).trans rfl
                have hcz30_2 : wc.cell? ⟨gb112, 2, none⟩ = some (.int .u8 a0_2) := (blk_cell BK112.out 2).trans rfl
                have hcz30_3 : wc.cell? ⟨gb112, 3, none⟩ = some (.int .u32 a0_3) := (blk_cell BK112.out 3).trans rfl
                have hcz30_4 : wc.cell? ⟨gb112, 4, none⟩ = some (.bool a0_4) := (blk_cell BK112.out 4).trans rfl
                have hcz30_5 : wc.cell? ⟨gb112, 5, none⟩ = some (.int .u8 a0_5) := (blk_cell BK112.out 5).trans rfl
                have hcz30_6 : wc.cell? ⟨gb112, 6, none⟩ = some (.int .u8 a0_6) := (blk_cell BK112.out 6).trans rfl
                have hcz30_7 : wc.cell? ⟨gb112, 7, none⟩ = some (.slice A0_7 l0_7.length c0_7) := (blk_cell BK112.out 7).trans rfl
                have hcz30_8 : wc.cell? ⟨gb112, 8, none⟩ = some (.slice A0_8 l0_8.length c0_8) := (blk_cell BK112.out 8).trans rfl
                have hfz30_0 := blk_frozen BK112.out 0
                have hfz30_1 := blk_frozen BK112.out 1
                have hfz30_2 := blk_frozen BK112.out 2
                have hfz30_3 := blk_frozen BK112.out 3
                have hfz30_4 := blk_frozen BK112.out 4
                have hfz30_5 := blk_frozen BK112.out 5
                have hfz30_6 := blk_frozen BK112.out 6
                have hfz30_7 := blk_frozen BK112.out 7
                have hfz30_8 := blk_frozen BK112.out 8
                go_wp2
                go_ret
                exact ⟨by first | rfl | (simp [errW_none, errW_some] <;> rfl) | (simp [*, errW_none, errW_some] <;> rfl), by repeat (first | (with_reducible first | exact HB.out | apply below_alloc | apply pw_below_drewN | apply below_drew1 | refine below_set ?_ GE112.out) | exact HB.out)⟩
            · replace c21 := Bool.eq_false_iff.mpr c21
              subst c21
              have H1 : (some false) = some r := by rw [if_neg (show ¬ (false = true) by decide)] at H; exact H
              clear H
              have H := H1
              clear H1
              obtain rfl := Option.some.inj H
              have hcz31_0 : wc.cell? ⟨gb112, 0, none⟩ = some (.int .u8 a0_0) := (blk_cell BK112.out 0).trans rfl
              have hcz31_1 : wc.cell? ⟨gb112, 1, none⟩ = some (.int .i64 a0_1) := (blk_cell BK112.out 1).trans rfl
              have hcz31_2 : wc.cell? ⟨gb112, 2, none⟩ = some (.int .u8 a0_2) := (blk_cell BK112.out 2).trans rfl
              have hcz31_3 : wc.cell? ⟨gb112, 3, none⟩ = some (.int .u32 a0_3) := (blk_cell BK112.out 3).trans rfl
              have hcz31_4 : wc.cell? ⟨gb112, 4, none⟩ = some (.bool a0_4) := (blk_cell BK112.out 4).trans rfl
              have hcz31_5 : wc.cell? ⟨gb112, 5, none⟩ = some (.int .u8 a0_5) := (blk_cell BK112.out 5).trans rfl
              have hcz31_6 : wc.cell? ⟨gb112, 6, none⟩ = some (.int .u8 a0_6) := (blk_cell BK112.out 6).trans rfl
              have hcz31_7 : wc.cell? ⟨gb112, 7, none⟩ = some (.slice A0_7 l0_7.length c0_7) := (blk_cell BK112.out 7).trans rfl
              have hcz31_8 : wc.cell? ⟨gb112, 8, none⟩ = some (.slice A0_8 l0_8.length c0_8) := (blk_cell BK112.out 8).trans rfl
              have hfz31_0 := blk_frozen BK112.out 0
              have hfz31_1 := blk_frozen BK112.out 1
              have hfz31_2 := blk_frozen BK112.out 2
              have hfz31_3 := blk_frozen BK112.out 3
              have hfz31_4 := blk_frozen BK112.out 4
              have hfz31_5 := blk_frozen BK112.out 5
              have hfz31_6 := blk_frozen BK112.out 6
              have hfz31_7 := blk_frozen BK112.out 7
              have hfz31_8 := blk_frozen BK112.out 8
              go_wp2
              go_ret
              exact ⟨by first | rfl | (simp [errW_none, errW_some] <;> rfl) | (simp [*, errW_none, errW_some] <;> rfl), by repeat (first | (with_reducible first | exact HB.out | apply below_alloc | apply pw_below_drewN | apply below_drew1 | refine below_set ?_ GE112.out) | exact HB.out)⟩
          · rw [if_neg c20] at H
            have c20b0 : (a0_1 == 3) = false := beq_eq_false_iff_ne.mpr c20
            have c20b1 : (a0_1 != 3) = true := bne_iff_ne.mpr c20
            obtain rfl := Option.some.inj H
            have hcz32_0 : wc.cell? ⟨gb112, 0, none⟩ = some (.int .u8 a0_0) := (blk_cell BK112.out 0).trans rfl
            have hcz32_1 : wc.cell? ⟨gb112, 1, none⟩ = some (.int .i64 a0_1) := (blk_cell BK112.out 1).trans rfl
            have hcz32_2 : wc.cell? ⟨gb112, 2, none⟩ = some (.int .u8 a0_2) := (blk_cell BK112.out 2).trans rfl
            have hcz32_3 : wc.cell? ⟨gb112, 3, none⟩ = some (.int .u32 a0_3) := (blk_cell BK112.out 3).trans rfl
            have hcz32_4 : wc.cell? ⟨gb112, 4, none⟩ = some (.bool a0_4) := (blk_cell BK112.out 4).trans rfl
            have hcz32_5 : wc.cell? ⟨gb112, 5, none⟩ = some (.int .u8 a0_5) := (blk_cell BK112.out 5).trans rfl
            have hcz32_6 : wc.cell? ⟨gb112, 6, none⟩ = some (.int .u8 a0_6) := (blk_cell BK112.out 6).trans rfl
            have hcz32_7 : wc.cell? ⟨gb112, 7, none⟩ = some (.slice A0_7 l0_7.length c0_7) := (blk_cell BK112.out 7).trans rfl
            have hcz32_8 : wc.cell? ⟨gb112, 8, none⟩ = some (.slice A0_8 l0_8.length c0_8) := (blk_cell BK112.out 8).trans rfl
            have hfz32_0 := blk_frozen BK112.out 0
            have hfz32_1 := blk_frozen BK112.out 1
            have hfz32_2 := blk_frozen BK112.out 2
            have hfz32_3 := blk_frozen BK112.out 3
            have hfz32_4 := blk_frozen BK112.out 4
            have hfz32_5 := blk_frozen BK112.out 5
            have hfz32_6 := blk_frozen BK112.out 6
            have hfz32_7 := blk_frozen BK112.out 7
            have hfz32_8 := blk_frozen BK112.out 8
            go_wp2
            go_ret
            exact ⟨by first | rfl | (simp [errW_none, errW_some] <;> rfl) | (simp [*, errW_none, errW_some] <;> rfl), by repeat (first | (with_reducible first | exact HB.out | apply below_alloc | apply pw_below_drewN | apply below_drew1 | refine below_set ?_ GE112.out) | exact HB.out)⟩

end Go.Proofs.Ytafmjhmpnlkeiaa.P

/- Printed by myprint.py, a program of this session, over the kit's print. -/
namespace Go.Proofs.Ytafmjhmpnlkeiaa.P
open Go.RowKit Go.Proofs.YtafmjhmpnlkeiaaW.PrintWords Go.Proofs.YtafmjhmpnlkeiaaW.PrintLast Go.Proofs.YtafmjhmpnlkeiaaW.PrintMore
attribute [local go_sem] max2_int min2_int max_two min_two max_three min_three max_four min_four   -- for this text's walks alone
set_option linter.unusedVariables false
set_option linter.unusedSimpArgs false

/-! ### igmp_Right: function 9 -/
def igmp_Right.j0 : Nat → Int → Bool → Int → Int → Int → Int → Bool → Int → Int → List Int → List (S44) → Option (Bool)
  | 0, _, _, _, _, _, _, _, _, _, _, _ => none
  | k + 1, x5, x10, x117000, x117001, x117002, x117003, x117004, x117005, x117006, x117007, x117008 => if x10 = true then ((addr_IsAsked.f x117003).bind fun t118 => (if t118 = true then ((igmp_Same.f k x117000 x117001 x117002 x117003 x117004 x117005 x117006 x117007 x117008 x117000 0 0 x117003 false 0 0 ([] : List Int) ([] : List (S44))).bind fun t119 => (some t119)) else (some false))) else (if x5 = 34 then (if (x117008.length : Int) ≤ 32 then ((api_Record_27.f x117008).bind fun t120 => (if t120 = true then (some false) else ((igmp_Same.f k x117000 x117001 x117002 x117003 x117004 x117005 x117006 x117007 x117008 x117000 0 0 0 false 0 0 ([] : List Int) x117008).bind fun t121 => (some t121)))) else (some false)) else (some false))
def igmp_Right.f (k : Nat) (a0_0 : Int) (a0_1 : Int) (a0_2 : Int) (a0_3 : Int) (a0_4 : Bool) (a0_5 : Int) (a0_6 : Int) (l0_7 : List Int) (l0_8 : List (S44)) : Option (Bool) := if a0_0 = 17 then ((igmp_query.f k a0_0 a0_1 a0_2 a0_3 a0_4 a0_5 a0_6 l0_7 l0_8).bind fun t117 => (some t117)) else (if a0_0 = 18 then (igmp_Right.j0 k a0_0 (a0_0 == 18) a0_0 a0_1 a0_2 a0_3 a0_4 a0_5 a0_6 l0_7 l0_8) else (if a0_0 = 22 then (igmp_Right.j0 k a0_0 (a0_0 == 22) a0_0 a0_1 a0_2 a0_3 a0_4 a0_5 a0_6 l0_7 l0_8) else (igmp_Right.j0 k a0_0 (a0_0 == 23) a0_0 a0_1 a0_2 a0_3 a0_4 a0_5 a0_6 l0_7 l0_8)))
theorem igmp_Right.mono_l : ∀ k, (∀ y0 y1 y2 y3 y4 y5 y6 y7 y8 y9 y10, LeO (igmp_Right.j0 k y0 y1 y2 y3 y4 y5 y6 y7 y8 y9 y10) (igmp_Right.j0 (k + 1) y0 y1 y2 y3 y4 y5 y6 y7 y8 y9 y10))
  | 0 => fun _ _ _ _ _ _ _ _ _ _ _ r h => by simp [igmp_Right.j0] at h
  | k + 1 => by
    have ih0 := igmp_Right.mono_l k
    · intro y0 y1 y2 y3 y4 y5 y6 y7 y8 y9 y10
      unfold igmp_Right.j0
      repeat' first
      | (with_reducible exact ih0 _ _ _ _ _ _ _ _ _ _ _)
      | (with_reducible exact igmp_Same.mono _ _ _ _ _ _ _ _ _ _ _ _ _ _ _ _ _ _ _)
      | (with_reducible exact igmp_query.mono _ _ _ _ _ _ _ _ _ _)
      | (with_reducible exact LeO.refl _)
      | (with_reducible exact LeO.none _)
      | (with_reducible refine LeO.ite ?_ ?_)
      | (with_reducible refine LeO.bind ?_ (fun _ => ?_))
      | exact ih0 _ _ _ _ _ _ _ _ _ _ _
      | exact igmp_Same.mono _ _ _ _ _ _ _ _ _ _ _ _ _ _ _ _ _ _ _
      | exact igmp_query.mono _ _ _ _ _ _ _ _ _ _
      | exact LeO.none _
      | refine LeO.ite ?_ ?_
      | refine LeO.bind ?_ (fun _ => ?_)
theorem igmp_Right.mono : ∀ a0 a1 a2 a3 a4 a5 a6 a7 a8 k, LeO (igmp_Right.f k a0 a1 a2 a3 a4 a5 a6 a7 a8) (igmp_Right.f (k + 1) a0 a1 a2 a3 a4 a5 a6 a7 a8) := by
  intro a0 a1 a2 a3 a4 a5 a6 a7 a8 k
  have ih0 := igmp_Right.mono_l k
  unfold igmp_Right.f
  repeat' first
      | (with_reducible exact ih0 _ _ _ _ _ _ _ _ _ _ _)
      | (with_reducible exact igmp_Same.mono _ _ _ _ _ _ _ _ _ _ _ _ _ _ _ _ _ _ _)
      | (with_reducible exact igmp_query.mono _ _ _ _ _ _ _ _ _ _)
      | (with_reducible exact LeO.refl _)
      | (with_reducible exact LeO.none _)
      | (with_reducible refine LeO.ite ?_ ?_)
      | (with_reducible refine LeO.bind ?_ (fun _ => ?_))
      | exact ih0 _ _ _ _ _ _ _ _ _ _ _
      | exact igmp_Same.mono _ _ _ _ _ _ _ _ _ _ _ _ _ _ _ _ _ _ _
      | exact igmp_query.mono _ _ _ _ _ _ _ _ _ _
      | exact LeO.none _
      | refine LeO.ite ?_ ?_
      | refine LeO.bind ?_ (fun _ => ?_)
set_option maxHeartbeats 8000000 in
set_option maxRecDepth 100000 in
theorem igmp_Right.calls (k : Nat) (a0_0 : Int) (a0_1 : Int) (a0_2 : Int) (a0_3 : Int) (a0_4 : Bool) (a0_5 : Int) (a0_6 : Int) (A0_7 : Option Addr) (c0_7 : Nat) (l0_7 : List Int) (A0_8 : Option Addr) (c0_8 : Nat) (l0_8 : List (S44)) (r : Bool) (w : World) (hr0_7 : Kd.C (Kd.int .u32) w A0_7 l0_7.length l0_7) (hc0_7 : l0_7.length ≤ c0_7) (hr0_8 : Kd.C k44 w A0_8 l0_8.length l0_8) (hc0_8 : l0_8.length ≤ c0_8) (h : igmp_Right.f k a0_0 a0_1 a0_2 a0_3 a0_4 a0_5 a0_6 l0_7 l0_8 = some r) :
    Calls Try.prog 9 #[.agg #[.int .u8 a0_0, .int .i64 a0_1, .int .u8 a0_2, .int .u32 a0_3, .bool a0_4, .int .u8 a0_5, .int .u8 a0_6, .slice A0_7 l0_7.length c0_7, .slice A0_8 l0_8.length c0_8]] w fun e w' => e = .returned (.bool r) ∧ Below w.heap.size w w' := by
  have hu27 := Try.underlying27
  have HR0_7 := Aside0.mk hr0_7
  have HC0_7 := Aside0.mk hc0_7
  clear hr0_7 hc0_7
  have HR0_8 := Aside0.mk hr0_8
  have HC0_8 := Aside0.mk hc0_8
  clear hr0_8 hc0_8
  have HB := Aside0.mk (Below.refl w.heap.size w)
  have H : (if a0_0 = 17 then ((igmp_query.f k a0_0 a0_1 a0_2 a0_3 a0_4 a0_5 a0_6 l0_7 l0_8).bind fun t117 => (some t117)) else (if a0_0 = 18 then (igmp_Right.j0 k a0_0 (a0_0 == 18) a0_0 a0_1 a0_2 a0_3 a0_4 a0_5 a0_6 l0_7 l0_8) else (if a0_0 = 22 then (igmp_Right.j0 k a0_0 (a0_0 == 22) a0_0 a0_1 a0_2 a0_3 a0_4 a0_5 a0_6 l0_7 l0_8) else (igmp_Right.j0 k a0_0 (a0_0 == 23) a0_0 a0_1 a0_2 a0_3 a0_4 a0_5 a0_6 l0_7 l0_8)))) = some r := h
  clear h
  by_cases c2 : a0_0 = 17
  · rw [if_pos c2] at H
    have c2b0 : (a0_0 == 17) = true := beq_iff_eq.mpr c2
    have c2b1 : (a0_0 != 17) = false := bne_eq_false_iff_eq.mpr c2
    clear c2
    replace H := Option.bind_eq_some_iff.mp H
    obtain ⟨t117, A30, H⟩ := H
    replace H : (some t117) = some r := H
    have A3 := Aside0.mk A30
    clear A30
    obtain rfl := Option.some.inj H
    go_enter Try.func9, Try.ntmps9
    go_wp2_with (first | ((with_reducible refine gate_dst (N := 1) rfl ?_); refine box_event ?hg (N := 1) ?hd (cs := #[.int .u8 a0_0, .int .i64 a0_1, .int .u8 a0_2, .int .u32 a0_3, .bool a0_4, .int .u8 a0_5, .int .u8 a0_6, .slice A0_7 l0_7.length c0_7, .slice A0_8 l0_8.length c0_8]) (t := 27) ?hr ?_; (case hd => rfl); (case hg => rfl); (case hr => first | (go_simp; done) | (go_simp; rfl)); intro gb116 hg w4 hbox hb; have n0_ := Aside0.mk (below_step (by repeat (first | (with_reducible first | exact HB.out | apply below_alloc | apply pw_below_drewN | apply below_drew1) | exact HB.out)) hb); have n1_ := Aside0.mk (hbox); have n2_ := Aside0.mk ((by rw [hg]; exact (below_size (by repeat (first | (with_reducible first | exact HB.out | apply below_alloc | apply pw_below_drewN | apply below_drew1) | exact HB.out))) : w.heap.size ≤ gb116)); have n3_ := Aside0.mk ((by rw [hg]; exact (below_size (by repeat (first | (with_reducible first | exact HB.out | apply below_alloc | apply pw_below_drewN | apply below_drew1) | exact HB.out))) : w.heap.size ≤ gb116)); clear HB; have HB := n0_; have BK116 := n1_; have GW116 := n2_; have GE116 := n3_; clear n0_ n1_ n2_ n3_; clear hb hbox hg; have hcz5_0 : w4.cell? ⟨gb116, 0, none⟩ = some (.int .u8 a0_0) := (blk_cell BK116.out 0).trans rfl; have hcz5_1 : w4.cell? ⟨gb116, 1, none⟩ = some (.int .i64 a0_1) := (blk_cell BK116.out 1).trans rfl; have hcz5_2 : w4.cell? ⟨gb116, 2, none⟩ = some (.int .u8 a0_2) := (blk_cell BK116.out 2).trans rfl; have hcz5_3 : w4.cell? ⟨gb116, 3, none⟩ = some (.int .u32 a0_3) := (blk_cell BK116.out 3).trans rfl; have hcz5_4 : w4.cell? ⟨gb116, 4, none⟩ = some (.bool a0_4) := (blk_cell BK116.out 4).trans rfl; have hcz5_5 : w4.cell? ⟨gb116, 5, none⟩ = some (.int .u8 a0_5) := (blk_cell BK116.out 5).trans rfl; have hcz5_6 : w4.cell? ⟨gb116, 6, none⟩ = some (.int .u8 a0_6) := (blk_cell BK116.out 6).trans rfl; have hcz5_7 : w4.cell? ⟨gb116, 7, none⟩ = some (.slice A0_7 l0_7.length c0_7) := (blk_cell BK116.out 7).trans rfl; have hcz5_8 : w4.cell? ⟨gb116, 8, none⟩ = some (.slice A0_8 l0_8.length c0_8) := (blk_cell BK116.out 8).trans rfl; have hfz5_0 := blk_frozen BK116.out 0; have hfz5_1 := blk_frozen BK116.out 1; have hfz5_2 := blk_frozen BK116.out 2; have hfz5_3 := blk_frozen BK116.out 3; have hfz5_4 := blk_frozen BK116.out 4; have hfz5_5 := blk_frozen BK116.out 5; have hfz5_6 := blk_frozen BK116.out 6; have hfz5_7 := blk_frozen BK116.out 7; have hfz5_8 := blk_frozen BK116.out 8) | ((with_reducible refine gate_callee (f := 23) rfl ?_); refine goesL_ (some 9) rfl rfl Try.func23 (by kernel_rfl) rfl #[.agg #[.int .u8 a0_0, .int .i64 a0_1, .int .u8 a0_2, .int .u32 a0_3, .bool a0_4, .int .u8 a0_5, .int .u8 a0_6, .slice A0_7 l0_7.length c0_7, .slice A0_8 l0_8.length c0_8]] rfl (by (try simp only [List.map_toArray, List.map_cons, List.map_nil]); first | done | rfl | (simp only [List.length_drop, List.length_take]; rfl)) ?_; (with_reducible refine (igmp_query.calls k a0_0 a0_1 a0_2 a0_3 a0_4 a0_5 a0_6 _ _ l0_7 _ _ l0_8 t117 _ ?side1 ?side2 ?side3 ?side4 A3.out).mono ?_); (case side1 => repeat (first | exact (Kd.C_below HR0_7.out HB.out) | (with_reducible refine Kd.C_alloc ?_ _) | (with_reducible refine Kd.C_drewN ?_ _) | (with_reducible refine Kd.C_drew ?_))); (case side2 => exact HC0_7.out); (case side3 => repeat (first | exact (Kd.C_below HR0_8.out HB.out) | (with_reducible refine Kd.C_alloc ?_ _) | (with_reducible refine Kd.C_drewN ?_ _) | (with_reducible refine Kd.C_drew ?_))); (case side4 => exact HC0_8.out); rintro e w6 ⟨rfl, hb⟩; refine ⟨_, rfl, ?_⟩; have n0_ := Aside0.mk (blk_below (g := gb116) (o := .cells #[.int .u8 a0_0, .int .i64 a0_1, .int .u8 a0_2, .int .u32 a0_3, .bool a0_4, .int .u8 a0_5, .int .u8 a0_6, .slice A0_7 l0_7.length c0_7, .slice A0_8 l0_8.length c0_8] 27 (0, 0)) (by (with_reducible repeat (first | refine blk_drewN ?_ _ | refine blk_drew ?_ | refine blk_alloc ?_ _)); exact BK116.out) hb); have n1_ := Aside0.mk (below_step (by repeat (first | (with_reducible first | exact HB.out | apply below_alloc | apply pw_below_drewN | apply below_drew1 | refine below_set ?_ GE116.out) | exact HB.out)) hb); clear BK116; clear HB; have BK116 := n0_; have HB := n1_; clear n0_ n1_; (try clear hb); (try clear hb2); (try clear hk); (try clear hi)))
    go_ret
    exact ⟨by first | rfl | (simp [errW_none, errW_some] <;> rfl) | (simp [*, errW_none, errW_some] <;> rfl), by repeat (first | (with_reducible first | exact HB.out | apply below_alloc | apply pw_below_drewN | apply below_drew1 | refine below_set ?_ GE116.out) | exact HB.out)⟩
  · rw [if_neg c2] at H
    have c2b0 : (a0_0 == 17) = false := beq_eq_false_iff_ne.mpr c2
    have c2b1 : (a0_0 != 17) = true := bne_iff_ne.mpr c2
    have HC7 := Aside0.mk H
    clear H
    go_enter Try.func9, Try.ntmps9
    go_upto_if 10 with (first | ((with_reducible refine gate_dst (N := 1) rfl ?_); refine box_event ?hg (N := 1) ?hd (cs := #[.int .u8 a0_0, .int .i64 a0_1, .int .u8 a0_2, .int .u32 a0_3, .bool a0_4, .int .u8 a0_5, .int .u8 a0_6, .slice A0_7 l0_7.length c0_7, .slice A0_8 l0_8.length c0_8]) (t := 27) ?hr ?_; (case hd => rfl); (case hg => rfl); (case hr => first | (go_simp; done) | (go_simp; rfl)); intro gb116 hg w8 hbox hb; have n0_ := Aside0.mk (below_step (by repeat (first | (with_reducible first | exact HB.out | apply below_alloc | apply pw_below_drewN | apply below_drew1) | exact HB.out)) hb); have n1_ := Aside0.mk (hbox); have n2_ := Aside0.mk ((by rw [hg]; exact (below_size (by repeat (first | (with_reducible first | exact HB.out | apply below_alloc | apply pw_below_drewN | apply below_drew1) | exact HB.out))) : w.heap.size ≤ gb116)); have n3_ := Aside0.mk ((by rw [hg]; exact (below_size (by repeat (first | (with_reducible first | exact HB.out | apply below_alloc | apply pw_below_drewN | apply below_drew1) | exact HB.out))) : w.heap.size ≤ gb116)); clear HB; have HB := n0_; have BK116 := n1_; have GW116 := n2_; have GE116 := n3_; clear n0_ n1_ n2_ n3_; clear hb hbox hg; have hcz9_0 : w8.cell? ⟨gb116, 0, none⟩ = some (.int .u8 a0_0) := (blk_cell BK116.out 0).trans rfl; have hcz9_1 : w8.cell? ⟨gb116, 1, none⟩ = some (.int .i64 a0_1) := (blk_cell BK116.out 1).trans rfl; have hcz9_2 : w8.cell? ⟨gb116, 2, none⟩ = some (.int .u8 a0_2) := (blk_cell BK116.out 2).trans rfl; have hcz9_3 : w8.cell? ⟨gb116, 3, none⟩ = some (.int .u32 a0_3) := (blk_cell BK116.out 3).trans rfl; have hcz9_4 : w8.cell? ⟨gb116, 4, none⟩ = some (.bool a0_4) := (blk_cell BK116.out 4).trans rfl; have hcz9_5 : w8.cell? ⟨gb116, 5, none⟩ = some (.int .u8 a0_5) := (blk_cell BK116.out 5).trans rfl; have hcz9_6 : w8.cell? ⟨gb116, 6, none⟩ = some (.int .u8 a0_6) := (blk_cell BK116.out 6).trans rfl; have hcz9_7 : w8.cell? ⟨gb116, 7, none⟩ = some (.slice A0_7 l0_7.length c0_7) := (blk_cell BK116.out 7).trans rfl; have hcz9_8 : w8.cell? ⟨gb116, 8, none⟩ = some (.slice A0_8 l0_8.length c0_8) := (blk_cell BK116.out 8).trans rfl; have hfz9_0 := blk_frozen BK116.out 0; have hfz9_1 := blk_frozen BK116.out 1; have hfz9_2 := blk_frozen BK116.out 2; have hfz9_3 := blk_frozen BK116.out 3; have hfz9_4 := blk_frozen BK116.out 4; have hfz9_5 := blk_frozen BK116.out 5; have hfz9_6 := blk_frozen BK116.out 6; have hfz9_7 := blk_frozen BK116.out 7; have hfz9_8 := blk_frozen BK116.out 8))
    (try simp only [Act.put, List.setIfInBounds_toArray, List.set_cons_zero, List.set_cons_succ])
    go_cut [10] (fun v10 wc => ∃ (kq : Nat) (x10_6 : Bool), v10 = .bool x10_6 ∧ Aside0 (igmp_Right.j0 kq a0_0 x10_6 a0_0 a0_1 a0_2 a0_3 a0_4 a0_5 a0_6 l0_7 l0_8 = some r) ∧ Aside0 (kq ≤ k) ∧ Aside0 (wc.heap[gb116]? = some (.cells #[.int .u8 a0_0, .int .i64 a0_1, .int .u8 a0_2, .int .u32 a0_3, .bool a0_4, .int .u8 a0_5, .int .u8 a0_6, (.slice A0_7 l0_7.length c0_7), (.slice A0_8 l0_8.length c0_8)] 27 (0, 0))) ∧ Aside0 (Below w.heap.size w wc))
    case first =>
      have H := HC7.out
      clear HC7
      by_cases c10 : a0_0 = 18
      · rw [if_pos c10] at H
        have c10b0 : (a0_0 == 18) = true := beq_iff_eq.mpr c10
        have c10b1 : (a0_0 != 18) = false := bne_eq_false_iff_eq.mpr c10
        clear c10
        (first | rw [c10b0] | (simp only [i64_w, i32_w]; rw [c10b0]) | skip)
        have H' := Aside0.mk H
        clear H
        go_wp2
        go_meet
        case rel => exact ⟨_, ((a0_0 == 18)), (by first | rfl | (simp; done) | (simp [*]; done)), H', ⟨by first | omega | exact Nat.le_refl _⟩, ⟨by (with_reducible repeat (first | refine blk_drewN ?_ _ | refine blk_drew ?_ | refine blk_alloc ?_ _)); exact BK116.out⟩, ⟨by repeat (first | (with_reducible first | exact HB.out | apply below_alloc | apply pw_below_drewN | apply below_drew1 | refine below_set ?_ GE116.out) | exact HB.out)⟩⟩
      · rw [if_neg c10] at H
        have c10b0 : (a0_0 == 18) = false := beq_eq_false_iff_ne.mpr c10
        have c10b1 : (a0_0 != 18) = true := bne_iff_ne.mpr c10
        (first | rw [c10b0] | (simp only [i64_w, i32_w]; rw [c10b0]) | skip)
        by_cases c11 : a0_0 = 22
        · rw [if_pos c11] at H
          have c11b0 : (a0_0 == 22) = true := beq_iff_eq.mpr c11
          have c11b1 : (a0_0 != 22) = false := bne_eq_false_iff_eq.mpr c11
          clear c11
          have H' := Aside0.mk H
          clear H
          go_wp2
          go_meet
          case rel => exact ⟨_, ((a0_0 == 22)), (by first | rfl | (simp; done) | (simp [*]; done)), H', ⟨by first | omega | exact Nat.le_refl _⟩, ⟨by (with_reducible repeat (first | refine blk_drewN ?_ _ | refine blk_drew ?_ | refine blk_alloc ?_ _)); exact BK116.out⟩, ⟨by repeat (first | (with_reducible first | exact HB.out | apply below_alloc | apply pw_below_drewN | apply below_drew1 | refine below_set ?_ GE116.out) | exact HB.out)⟩⟩
        · rw [if_neg c11] at H
          have c11b0 : (a0_0 == 22) = false := beq_eq_false_iff_ne.mpr c11
          have c11b1 : (a0_0 != 22) = true := bne_iff_ne.mpr c11
          have H' := Aside0.mk H
          clear H
          go_wp2
          go_meet
          case rel => exact ⟨_, ((a0_0 == 23)), (by first | rfl | (simp; done) | (simp [*]; done)), H', ⟨by first | omega | exact Nat.le_refl _⟩, ⟨by (with_reducible repeat (first | refine blk_drewN ?_ _ | refine blk_drew ?_ | refine blk_alloc ?_ _)); exact BK116.out⟩, ⟨by repeat (first | (with_reducible first | exact HB.out | apply below_alloc | apply pw_below_drewN | apply below_drew1 | refine below_set ?_ GE116.out) | exact HB.out)⟩⟩
    case rest =>
      clear HC7
      try clear c1
      try clear c2
      try clear c2b0
      try clear c2b1
      try clear p2
      try clear c9
      try clear c10
      try clear c10b0
      try clear c10b1
      try clear c11
      try clear c11b0
      try clear c11b1
      try clear hcz5_0
      try clear hcz5_1
      try clear hcz5_2
      try clear hcz5_3
      try clear hcz5_4
      try clear hcz5_5
      try clear hcz5_6
      try clear hcz5_7
      try clear hcz5_8
      try clear hcz9_0
      try clear hcz9_1
      try clear hcz9_2
      try clear hcz9_3
      try clear hcz9_4
      try clear hcz9_5
      try clear hcz9_6
      try clear hcz9_7
      try clear hcz9_8
      try clear hfz5_0
      try clear hfz5_1
      try clear hfz5_2
      try clear hfz5_3
      try clear hfz5_4
      try clear hfz5_5
      try clear hfz5_6
      try clear hfz5_7
      try clear hfz5_8
      try clear hfz9_0
      try clear hfz9_1
      try clear hfz9_2
      try clear hfz9_3
      try clear hfz9_4
      try clear hfz9_5
      try clear hfz9_6
      try clear hfz9_7
      try clear hfz9_8
      obtain ⟨kq, x10_6, rfl, HA, HJ6, BK116, HB⟩ := hcut
      cases kq with
      | zero => exact absurd HA.out (by simp [igmp_Right.j0])
      | succ kj6 =>
        have H := HA.out
        clear HA
        simp only [igmp_Right.j0] at H
        by_cases c12 : x10_6 = true
        · subst c12
          have H1 : ((addr_IsAsked.f a0_3).bind fun t118 => (if t118 = true then ((igmp_Same.f kj6 a0_0 a0_1 a0_2 a0_3 a0_4 a0_5 a0_6 l0_7 l0_8 a0_0 0 0 a0_3 false 0 0 ([] : List Int) ([] : List (S44))).bind fun t119 => (some t119)) else (some false))) = some r := by rw [if_pos rfl] at H; exact H
          clear H
          have H := H1
          clear H1
          replace H := Option.bind_eq_some_iff.mp H
          obtain ⟨t118, A130, H⟩ := H
          replace H : (if t118 = true then ((igmp_Same.f kj6 a0_0 a0_1 a0_2 a0_3 a0_4 a0_5 a0_6 l0_7 l0_8 a0_0 0 0 a0_3 false 0 0 ([] : List Int) ([] : List (S44))).bind fun t119 => (some t119)) else (some false)) = some r := H
          have A13 := Aside0.mk A130
          clear A130
          by_cases c14 : t118 = true
          · subst c14
            have H1 : ((igmp_Same.f kj6 a0_0 a0_1 a0_2 a0_3 a0_4 a0_5 a0_6 l0_7 l0_8 a0_0 0 0 a0_3 false 0 0 ([] : List Int) ([] : List (S44))).bind fun t119 => (some t119)) = some r := by rw [if_pos rfl] at H; exact H
            clear H
            have H := H1
            clear H1
            replace H := Option.bind_eq_some_iff.mp H
            obtain ⟨t119, A150, H⟩ := H
            replace H : (some t119) = some r := H
            have A15 := Aside0.mk A150
            clear A150
            obtain rfl := Option.some.inj H
            have hcz16_0 : wc.cell? ⟨gb116, 0, none⟩ = some (.int .u8 a0_0) := (blk_cell BK116.out 0).trans rfl
            have hcz16_1 : wc.cell? ⟨gb116, 1, none⟩ = some (.int .i64 a0_1) := (blk_cell BK116.out 1).trans rfl
            have hcz16_2 : wc.cell? ⟨gb116, 2, none⟩ = some (.int .u8 a0_2) := (blk_cell BK116.out 2).trans rfl
            have hcz16_3 : wc.cell? ⟨gb116, 3, none⟩ = some (.int .u32 a0_3) := (blk_cell BK116.out 3).trans rfl
            have hcz16_4 : wc.cell? ⟨gb116, 4, none⟩ = some (.bool a0_4) := (blk_cell BK116.out 4).trans rfl
            have hcz16_5 : wc.cell? ⟨gb116, 5, none⟩ = some (.int .u8 a0_5) := (blk_cell BK116.out 5).trans rfl
            have hcz16_6 : wc.cell? ⟨gb116, 6, none⟩ = some (.int .u8 a0_6) := (blk_cell BK116.out 6).trans rfl
            have hcz16_7 : wc.cell? ⟨gb116, 7, none⟩ = some (.slice A0_7 l0_7.length c0_7) := (blk_cell BK116.out 7).trans rfl
            have hcz16_8 : wc.cell? ⟨gb116, 8, none⟩ = some (.slice A0_8 l0_8.length c0_8) := (blk_cell BK116.out 8).trans rfl
            have hfz16_0 := blk_frozen BK116.out 0
            have hfz16_1 := blk_frozen BK116.out 1
            have hfz16_2 := blk_frozen BK116.out 2
            have hfz16_3 := blk_frozen BK116.out 3
            have hfz16_4 := blk_frozen BK116.out 4
            have hfz16_5 := blk_frozen BK116.out 5
            have hfz16_6 := blk_frozen BK116.out 6
            have hfz16_7 := blk_frozen BK116.out 7
            have hfz16_8 := blk_frozen BK116.out 8
            go_wp2_with (first | ((with_reducible refine gate_callee (f := 24) rfl ?_); refine goesL_ (some 16) rfl rfl Try.func24 (by kernel_rfl) rfl #[.int .u32 a0_3] rfl (by (try simp only [List.map_toArray, List.map_cons, List.map_nil]); first | done | rfl | (simp only [List.length_drop, List.length_take]; rfl)) ?_; (with_reducible refine (addr_IsAsked.calls a0_3 true _ A13.out).mono ?_); rintro e w' ⟨rfl, ⟨nd, rfl⟩⟩; refine ⟨_, rfl, ?_⟩) | (go_at_call 12; (refine (igmp_Same.calls kj6 a0_0 a0_1 a0_2 a0_3 a0_4 a0_5 a0_6 _ _ l0_7 _ _ l0_8 a0_0 0 0 a0_3 false 0 0 _ _ ([] : List Int) _ _ ([] : List (S44)) t119 _ ?side1 ?side2 ?side3 ?side4 ?side5 ?side6 ?side7 ?side8 A15.out).mono ?_); (case side1 => repeat (first | exact (Kd.C_below HR0_7.out (by repeat (first | (with_reducible first | exact HB.out | apply below_alloc | apply pw_below_drewN | apply below_drew1 | refine below_set ?_ GE116.out) | exact HB.out))) | (with_reducible refine Kd.C_alloc ?_ _) | (with_reducible refine Kd.C_drewN ?_ _) | (with_reducible refine Kd.C_drew ?_))); (case side2 => exact HC0_7.out); (case side3 => repeat (first | exact (Kd.C_below HR0_8.out (by repeat (first | (with_reducible first | exact HB.out | apply below_alloc | apply pw_below_drewN | apply below_drew1 | refine below_set ?_ GE116.out) | exact HB.out))) | (with_reducible refine Kd.C_alloc ?_ _) | (with_reducible refine Kd.C_drewN ?_ _) | (with_reducible refine Kd.C_drew ?_))); (case side4 => exact HC0_8.out); (case side5 => exact Kd.C_nil _ _); (case side6 => exact Nat.le_refl _); (case side7 => exact Kd.C_nil _ _); (case side8 => exact Nat.le_refl _); rintro e w17 ⟨rfl, hb⟩; have n0_ := Aside0.mk (blk_below (g := gb116) (o := .cells #[.int .u8 a0_0, .int .i64 a0_1, .int .u8 a0_2, .int .u32 a0_3, .bool a0_4, .int .u8 a0_5, .int .u8 a0_6, .slice A0_7 l0_7.length c0_7, .slice A0_8 l0_8.length c0_8] 27 (0, 0)) (by (with_reducible repeat (first | refine blk_drewN ?_ _ | refine blk_drew ?_ | refine blk_alloc ?_ _)); exact BK116.out) hb); have n1_ := Aside0.mk (below_step (by repeat (first | (with_reducible first | exact HB.out | apply below_alloc | apply pw_below_drewN | apply below_drew1 | refine below_set ?_ GE116.out) | exact HB.out)) hb); clear BK116; clear HB; have BK116 := n0_; have HB := n1_; clear n0_ n1_; (try clear hb); (try clear hb2); (try clear hk); (try clear hi)))
            go_ret
            exact ⟨by first | rfl | (simp [errW_none, errW_some] <;> rfl) | (simp [*, errW_none, errW_some] <;> rfl), by repeat (first | (with_reducible first | exact HB.out | apply below_alloc | apply pw_below_drewN | apply below_drew1 | refine below_set ?_ GE116.out) | exact HB.out)⟩
          · replace c14 := Bool.eq_false_iff.mpr c14
            subst c14
            have H1 : (some false) = some r := by rw [if_neg (show ¬ (false = true) by decide)] at H; exact H
            clear H
            have H := H1
            clear H1
            obtain rfl := Option.some.inj H
            have hcz18_0 : wc.cell? ⟨gb116, 0, none⟩ = some (.int .u8 a0_0) := (blk_cell BK116.out 0).trans rfl
            have hcz18_1 : wc.cell? ⟨gb116, 1, none⟩ = some (.int .i64 a0_1) := (blk_cell BK116.out 1).trans rfl
            have hcz18_2 : wc.cell? ⟨gb116, 2, none⟩ = some (.int .u8 a0_2) := (blk_cell BK116.out 2).trans rfl
            have hcz18_3 : wc.cell? ⟨gb116, 3, none⟩ = some (.int .u32 a0_3) := (blk_cell BK116.out 3).trans rfl
            have hcz18_4 : wc.cell? ⟨gb116, 4, none⟩ = some (.bool a0_4) := (blk_cell BK116.out 4).trans rfl
            have hcz18_5 : wc.cell? ⟨gb116, 5, none⟩ = some (.int .u8 a0_5) := (blk_cell BK116.out 5).trans rfl
            have hcz18_6 : wc.cell? ⟨gb116, 6, none⟩ = some (.int .u8 a0_6) := (blk_cell BK116.out 6).trans rfl
            have hcz18_7 : wc.cell? ⟨gb116, 7, none⟩ = some (.slice A0_7 l0_7.length c0_7) := (blk_cell BK116.out 7).trans rfl
            have hcz18_8 : wc.cell? ⟨gb116, 8, none⟩ = some (.slice A0_8 l0_8.length c0_8) := (blk_cell BK116.out 8).trans rfl
            have hfz18_0 := blk_frozen BK116.out 0
            have hfz18_1 := blk_frozen BK116.out 1
            have hfz18_2 := blk_frozen BK116.out 2
            have hfz18_3 := blk_frozen BK116.out 3
            have hfz18_4 := blk_frozen BK116.out 4
            have hfz18_5 := blk_frozen BK116.out 5
            have hfz18_6 := blk_frozen BK116.out 6
            have hfz18_7 := blk_frozen BK116.out 7
            have hfz18_8 := blk_frozen BK116.out 8
            go_wp2_with (first | ((with_reducible refine gate_callee (f := 24) rfl ?_); refine goesL_ (some 16) rfl rfl Try.func24 (by kernel_rfl) rfl #[.int .u32 a0_3] rfl (by (try simp only [List.map_toArray, List.map_cons, List.map_nil]); first | done | rfl | (simp only [List.length_drop, List.length_take]; rfl)) ?_; (with_reducible refine (addr_IsAsked.calls a0_3 false _ A13.out).mono ?_); rintro e w' ⟨rfl, ⟨nd, rfl⟩⟩; refine ⟨_, rfl, ?_⟩))
            go_ret
            exact ⟨by first | rfl | (simp [errW_none, errW_some] <;> rfl) | (simp [*, errW_none, errW_some] <;> rfl), by repeat (first | (with_reducible first | exact HB.out | apply below_alloc | apply pw_below_drewN | apply below_drew1 | refine below_set ?_ GE116.out) | exact HB.out)⟩
        · replace c12 := Bool.eq_false_iff.mpr c12
          subst c12
          have H1 : (if a0_0 = 34 then (if (l0_8.length : Int) ≤ 32 then ((api_Record_27.f l0_8).bind fun t120 => (if t120 = true then (some false) else ((igmp_Same.f kj6 a0_0 a0_1 a0_2 a0_3 a0_4 a0_5 a0_6 l0_7 l0_8 a0_0 0 0 0 false 0 0 ([] : List Int) l0_8).bind fun t121 => (some t121)))) else (some false)) else (some false)) = some r := by rw [if_neg (show ¬ (false = true) by decide)] at H; exact H
          clear H
          have H := H1
          clear H1
          by_cases c19 : a0_0 = 34
          · rw [if_pos c19] at H
            have c19b0 : (a0_0 == 34) = true := beq_iff_eq.mpr c19
            have c19b1 : (a0_0 != 34) = false := bne_eq_false_iff_eq.mpr c19
            clear c19
            by_cases c20 : (l0_8.length : Int) ≤ 32
            · rw [if_pos c20] at H
              have c20b0 : decide ((l0_8.length : Int) ≤ 32) = true := decide_eq_true c20
              have c20b1 : decide (l0_8.length ≤ 32) = true := decide_eq_true (by omega)
              clear c20
              replace H := Option.bind_eq_some_iff.mp H
              obtain ⟨t120, A210, H⟩ := H
              replace H : (if t120 = true then (some false) else ((igmp_Same.f kj6 a0_0 a0_1 a0_2 a0_3 a0_4 a0_5 a0_6 l0_7 l0_8 a0_0 0 0 0 false 0 0 ([] : List Int) l0_8).bind fun t121 => (some t121))) = some r := H
              have A21 := Aside0.mk A210
              clear A210
              by_cases c22 : t120 = true
              · subst c22
                have H1 : (some false) = some r := by rw [if_pos rfl] at H; exact H
                clear H
                have H := H1
                clear H1
                obtain rfl := Option.some.inj H
                have hcz23_0 : wc.cell? ⟨gb116, 0, none⟩ = some (.int .u8 a0_0) := (blk_cell BK116.out 0).trans rfl
                have hcz23_1 : wc.cell? ⟨gb116, 1, none⟩ = some (.int .i64 a0_1) := (blk_cell BK116.out 1).trans rfl
                have hcz23_2 : wc.cell? ⟨gb116, 2, none⟩ = some (.int .u8 a0_2) := (blk_cell BK116.out 2).trans rfl
                have hcz23_3 : wc.cell? ⟨gb116, 3, none⟩ = some (.int .u32 a0_3) := (blk_cell BK116.out 3).trans rfl
                have hcz23_4 : wc.cell? ⟨gb116, 4, none⟩ = some (.bool a0_4) := (blk_cell BK116.out 4).trans rfl
                have hcz23_5 : wc.cell? ⟨gb116, 5, none⟩ = some (.int .u8 a0_5) := (blk_cell BK116.out 5).trans rfl
                have hcz23_6 : wc.cell? ⟨gb116, 6, none⟩ = some (.int .u8 a0_6) := (blk_cell BK116.out 6).trans rfl
                have hcz23_7 : wc.cell? ⟨gb116, 7, none⟩ = some (.slice A0_7 l0_7.length c0_7) := (blk_cell BK116.out 7).trans rfl
                have hcz23_8 : wc.cell? ⟨gb116, 8, none⟩ = some (.slice A0_8 l0_8.length c0_8) := (blk_cell BK116.out 8).trans rfl
                have hfz23_0 := blk_frozen BK116.out 0
                have hfz23_1 := blk_frozen BK116.out 1
                have hfz23_2 := blk_frozen BK116.out 2
                have hfz23_3 := blk_frozen BK116.out 3
                have hfz23_4 := blk_frozen BK116.out 4
                have hfz23_5 := blk_frozen BK116.out 5
                have hfz23_6 := blk_frozen BK116.out 6
                have hfz23_7 := blk_frozen BK116.out 7
                have hfz23_8 := blk_frozen BK116.out 8
                go_wp2_with (first | (go_at_call 27; (with_reducible refine (api_Record_27.calls _ _ l0_8  true _ ?side1 ?side2 A21.out).mono ?_); (case side1 => repeat (first | exact (Kd.C_below HR0_8.out HB.out) | (with_reducible refine Kd.C_alloc ?_ _) | (with_reducible refine Kd.C_drewN ?_ _) | (with_reducible refine Kd.C_drew ?_))); (case side2 => exact HC0_8.out); rintro e w24 ⟨rfl, hb⟩; have n0_ := Aside0.mk (blk_below (g := gb116) (o := .cells #[.int .u8 a0_0, .int .i64 a0_1, .int .u8 a0_2, .int .u32 a0_3, .bool a0_4, .int .u8 a0_5, .int .u8 a0_6, .slice A0_7 l0_7.length c0_7, .slice A0_8 l0_8.length c0_8] 27 (0, 0)) (by (with_reducible repeat (first | refine blk_drewN ?_ _ | refine blk_drew ?_ | refine blk_alloc ?_ _)); exact BK116.out) hb); have n1_ := Aside0.mk (below_step (by repeat (first | (with_reducible first | exact HB.out | apply below_alloc | apply pw_below_drewN | apply below_drew1 | refine below_set ?_ GE116.out) | exact HB.out)) hb); clear BK116; clear HB; have BK116 := n0_; have HB := n1_; clear n0_ n1_; (try clear hb); (try clear hb2); (try clear hk); (try clear hi)))
                go_ret
                exact ⟨by first | rfl | (simp [errW_none, errW_some] <;> rfl) | (simp [*, errW_none, errW_some] <;> rfl), by repeat (first | (with_reducible first | exact HB.out | apply below_alloc | apply pw_below_drewN | apply below_drew1 | refine below_set ?_ GE116.out) | exact HB.out)⟩
              · replace c22 := Bool.eq_false_iff.mpr c22
                subst c22
                have H1 : ((igmp_Same.f kj6 a0_0 a0_1 a0_2 a0_3 a0_4 a0_5 a0_6 l0_7 l0_8 a0_0 0 0 0 false 0 0 ([] : List Int) l0_8).bind fun t121 => (some t121)) = some r := by rw [if_neg (show ¬ (false = true) by decide)] at H; exact H
                clear H
                have H := H1
                clear H1
                replace H := Option.bind_eq_some_iff.mp H
                obtain ⟨t121, A250, H⟩ := H
                replace H : (some t121) = some r := H
                have A25 := Aside0.mk A250
                clear A250
                obtain rfl := Option.some.inj H
                have hcz26_0 : wc.cell? ⟨gb116, 0, none⟩ = some (.int .u8 a0_0) := (blk_cell BK116.out 0).trans rfl
                have hcz26_1 : wc.cell? ⟨gb116, 1, none⟩ = some (.int .i64 a0_1) := (blk_cell BK116.out 1).trans rfl
                have hcz26_2 : wc.cell? ⟨gb116, 2, none⟩ = some (.int .u8 a0_2) := (blk_cell BK116.out 2).trans rfl
                have hcz26_3 : wc.cell? ⟨gb116, 3, none⟩ = some (.int .u32 a0_3) := (blk_cell BK116.out 3).trans rfl
                have hcz26_4 : wc.cell? ⟨gb116, 4, none⟩ = some (.bool a0_4) := (blk_cell BK116.out 4).trans rfl
                have hcz26_5 : wc.cell? ⟨gb116, 5, none⟩ = some (.int .u8 a0_5) := (blk_cell BK116.out 5).trans rfl
                have hcz26_6 : wc.cell? ⟨gb116, 6, none⟩ = some (.int .u8 a0_6) := (blk_cell BK116.out 6).trans rfl
                have hcz26_7 : wc.cell? ⟨gb116, 7, none⟩ = some (.slice A0_7 l0_7.length c0_7) := (blk_cell BK116.out 7).trans rfl
                have hcz26_8 : wc.cell? ⟨gb116, 8, none⟩ = some (.slice A0_8 l0_8.length c0_8) := (blk_cell BK116.out 8).trans rfl
                have hfz26_0 := blk_frozen BK116.out 0
                have hfz26_1 := blk_frozen BK116.out 1
                have hfz26_2 := blk_frozen BK116.out 2
                have hfz26_3 := blk_frozen BK116.out 3
                have hfz26_4 := blk_frozen BK116.out 4
                have hfz26_5 := blk_frozen BK116.out 5
                have hfz26_6 := blk_frozen BK116.out 6
                have hfz26_7 := blk_frozen BK116.out 7
                have hfz26_8 := blk_frozen BK116.out 8
                go_wp2_with (first | (go_at_call 27; (with_reducible refine (api_Record_27.calls _ _ l0_8  false _ ?side1 ?side2 A21.out).mono ?_); (case side1 => repeat (first | exact (Kd.C_below HR0_8.out HB.out) | (with_reducible refine Kd.C_alloc ?_ _) | (with_reducible refine Kd.C_drewN ?_ _) | (with_reducible refine Kd.C_drew ?_))); (case side2 => exact HC0_8.out); rintro e w27 ⟨rfl, hb⟩; have n0_ := Aside0.mk (blk_below (g := gb116) (o := .cells #[.int .u8 a0_0, .int .i64 a0_1, .int .u8 a0_2, .int .u32 a0_3, .bool a0_4, .int .u8 a0_5, .int .u8 a0_6, .slice A0_7 l0_7.length c0_7, .slice A0_8 l0_8.length c0_8] 27 (0, 0)) (by (with_reducible repeat (first | refine blk_drewN ?_ _ | refine blk_drew ?_ | refine blk_alloc ?_ _)); exact BK116.out) hb); have n1_ := Aside0.mk (below_step (by repeat (first | (with_reducible first | exact HB.out | apply below_alloc | apply pw_below_drewN | apply below_drew1 | refine below_set ?_ GE116.out) | exact HB.out)) hb); clear BK116; clear HB; have BK116 := n0_; have HB := n1_; clear n0_ n1_; (try clear hb); (try clear hb2); (try clear hk); (try clear hi); have hcz28_0 : w27.cell? ⟨gb116, 0, none⟩ = some (.int .u8 a0_0) := (blk_cell BK116.out 0).trans rfl; have hcz28_1 : w27.cell? ⟨gb116, 1, none⟩ = some (.int .i64 a0_1) := (blk_cell BK116.out 1).trans rfl; have hcz28_2 : w27.cell? ⟨gb116, 2, none⟩ = some (.int .u8 a0_2) := (blk_cell BK116.out 2).trans rfl; have hcz28_3 : w27.cell? ⟨gb116, 3, none⟩ = some (.int .u32 a0_3) := (blk_cell BK116.out 3).trans rfl; have hcz28_4 : w27.cell? ⟨gb116, 4, none⟩ = some (.bool a0_4) := (blk_cell BK116.out 4).trans rfl; have hcz28_5 : w27.cell? ⟨gb116, 5, none⟩ = some (.int .u8 a0_5) := (blk_cell BK116.out 5).trans rfl; have hcz28_6 : w27.cell? ⟨gb116, 6, none⟩ = some (.int .u8 a0_6) := (blk_cell BK116.out 6).trans rfl; have hcz28_7 : w27.cell? ⟨gb116, 7, none⟩ = some (.slice A0_7 l0_7.length c0_7) := (blk_cell BK116.out 7).trans rfl; have hcz28_8 : w27.cell? ⟨gb116, 8, none⟩ = some (.slice A0_8 l0_8.length c0_8) := (blk_cell BK116.out 8).trans rfl; have hfz28_0 := blk_frozen BK116.out 0; have hfz28_1 := blk_frozen BK116.out 1; have hfz28_2 := blk_frozen BK116.out 2; have hfz28_3 := blk_frozen BK116.out 3; have hfz28_4 := blk_frozen BK116.out 4; have hfz28_5 := blk_frozen BK116.out 5; have hfz28_6 := blk_frozen BK116.out 6; have hfz28_7 := blk_frozen BK116.out 7; have hfz28_8 := blk_frozen BK116.out 8) | (go_at_call 12; (refine (igmp_Same.calls kj6 a0_0 a0_1 a0_2 a0_3 a0_4 a0_5 a0_6 _ _ l0_7 _ _ l0_8 a0_0 0 0 0 false 0 0 _ _ ([] : List Int) _ _ l0_8 t121 _ ?side1 ?side2 ?side3 ?side4 ?side5 ?side6 ?side7 ?side8 A25.out).mono ?_); (case side1 => repeat (first | exact (Kd.C_below HR0_7.out HB.out) | (with_reducible refine Kd.C_alloc ?_ _) | (with_reducible refine Kd.C_drewN ?_ _) | (with_reducible refine Kd.C_drew ?_))); (case side2 => exact HC0_7.out); (case side3 => repeat (first | exact (Kd.C_below HR0_8.out HB.out) | (with_reducible refine Kd.C_alloc ?_ _) | (with_reducible refine Kd.C_drewN ?_ _) | (with_reducible refine Kd.C_drew ?_))); (case side4 => exact HC0_8.out); (case side5 => exact Kd.C_nil _ _); (case side6 => exact Nat.le_refl _); (case side7 => repeat (first | exact (Kd.C_below HR0_8.out HB.out) | (with_reducible refine Kd.C_alloc ?_ _) | (with_reducible refine Kd.C_drewN ?_ _) | (with_reducible refine Kd.C_drew ?_))); (case side8 => exact HC0_8.out); rintro e w29 ⟨rfl, hb⟩; have n0_ := Aside0.mk (blk_below (g := gb116) (o := .cells #[.int .u8 a0_0, .int .i64 a0_1, .int .u8 a0_2, .int .u32 a0_3, .bool a0_4, .int .u8 a0_5, .int .u8 a0_6, .slice A0_7 l0_7.length c0_7, .slice A0_8 l0_8.length c0_8] 27 (0, 0)) (by (with_reducible repeat (first | refine blk_drewN ?_ _ | refine blk_drew ?_ | refine blk_alloc ?_ _)); exact BK116.out) hb); have n1_ := Aside0.mk (below_step (by repeat (first | (with_reducible first | exact HB.out | apply below_alloc | apply pw_below_drewN | apply below_drew1 | refine below_set ?_ GE116.out) | exact HB.out)) hb); clear BK116; clear HB; have BK116 := n0_; have HB := n1_; clear n0_ n1_; (try clear hb); (try clear hb2); (try clear hk); (try clear hi)))
                go_ret
                exact ⟨by first | rfl | (simp [errW_none, errW_some] <;> rfl) | (simp [*, errW_none, errW_some] <;> rfl), by repeat (first | (with_reducible first | exact HB.out | apply below_alloc | apply pw_below_drewN | apply below_drew1 | refine below_set ?_ GE116.out) | exact HB.out)⟩
            · rw [if_neg c20] at H
              have c20b0 : decide ((l0_8.length : Int) ≤ 32) = false := decide_eq_false c20
              have c20b1 : decide (l0_8.length ≤ 32) = false := decide_eq_false (by omega)
              clear c20
              obtain rfl := Option.some.inj H
              have hcz30_0 : wc.cell? ⟨gb116, 0, none⟩ = some (.int .u8 a0_0) := (blk_cell BK116.out 0).trans rfl
              have hcz30_1 : wc.cell? ⟨gb116, 1, none⟩ = some (.int .i64 a0_1) := (blk_cell BK116.out 1).trans rfl
              have hcz30_2 : wc.cell? ⟨gb116, 2, none⟩ = some (.int .u8 a0_2) := (blk_cell BK116.out 2).trans rfl
              have hcz30_3 : wc.cell? ⟨gb116, 3, none⟩ = some (.int .u32 a0_3) := (blk_cell BK116.out 3).trans rfl
              have hcz30_4 : wc.cell? ⟨gb116, 4, none⟩ = some (.bool a0_4) := (blk_cell BK116.out 4).trans rfl
              have hcz30_5 : wc.cell? ⟨gb116, 5, none⟩ = some (.int .u8 a0_5) := (blk_cell BK116.out 5).trans rfl
              have hcz30_6 : wc.cell? ⟨gb116, 6, none⟩ = some (.int .u8 a0_6) := (blk_cell BK116.out 6).trans rfl
              have hcz30_7 : wc.cell? ⟨gb116, 7, none⟩ = some (.slice A0_7 l0_7.length c0_7) := (blk_cell BK116.out 7).trans rfl
              have hcz30_8 : wc.cell? ⟨gb116, 8, none⟩ = some (.slice A0_8 l0_8.length c0_8) := (blk_cell BK116.out 8).trans rfl
              have hfz30_0 := blk_frozen BK116.out 0
              have hfz30_1 := blk_frozen BK116.out 1
              have hfz30_2 := blk_frozen BK116.out 2
              have hfz30_3 := blk_frozen BK116.out 3
              have hfz30_4 := blk_frozen BK116.out 4
              have hfz30_5 := blk_frozen BK116.out 5
              have hfz30_6 := blk_frozen BK116.out 6
              have hfz30_7 := blk_frozen BK116.out 7
              have hfz30_8 := blk_frozen BK116.out 8
              go_wp2
              go_ret
              exact ⟨by first | rfl | (simp [errW_none, errW_some] <;> rfl) | (simp [*, errW_none, errW_some] <;> rfl), by repeat (first | (with_reducible first | exact HB.out | apply below_alloc | apply pw_below_drewN | apply below_drew1 | refine below_set ?_ GE116.out) | exact HB.out)⟩
          · rw [if_neg c19] at H
            have c19b0 : (a0_0 == 34) = false := beq_eq_false_iff_ne.mpr c19
            have c19b1 : (a0_0 != 34) = true := bne_iff_ne.mpr c19
            obtain rfl := Option.some.inj H
            go_wp2
            go_ret
            exact ⟨by first | rfl | (simp [errW_none, errW_some] <;> rfl) | (simp [*, errW_none, errW_some] <;> rfl), by repeat (first | (with_reducible first | exact HB.out | apply below_alloc | apply pw_below_drewN | apply below_drew1 | refine below_set ?_ GE116.out) | exact HB.out)⟩

end Go.Proofs.Ytafmjhmpnlkeiaa.P

/- Printed by myprint.py, a program of this session, over the kit's print. -/
namespace Go.Proofs.Ytafmjhmpnlkeiaa.P
open Go.RowKit Go.Proofs.YtafmjhmpnlkeiaaW.PrintWords Go.Proofs.YtafmjhmpnlkeiaaW.PrintLast Go.Proofs.YtafmjhmpnlkeiaaW.PrintMore
attribute [local go_sem] max2_int min2_int max_two min_two max_three min_three max_four min_four   -- for this text's walks alone
set_option linter.unusedVariables false
set_option linter.unusedSimpArgs false

/-! ### stolonref01_Asked: function 28 -/
def stolonref01_Asked.f (a0 : Int) : Option (Bool) := if a0 ≥ 3758096640 then (some (decide (a0 ≤ 4026531839))) else (some false)
set_option maxHeartbeats 8000000 in
set_option maxRecDepth 100000 in
theorem stolonref01_Asked.calls (a0 : Int) (r : Bool) (w : World) (h : stolonref01_Asked.f a0 = some r) :
    Calls Try.prog 28 #[.int .u32 a0] w fun e w' => e = .returned (.bool r) ∧ Drawn0 w w' := by
  have H : (if a0 ≥ 3758096640 then (some (decide (a0 ≤ 4026531839))) else (some false)) = some r := h
  clear h
  by_cases c2 : a0 ≥ 3758096640
  · rw [if_pos c2] at H
    have c2b0 : decide (3758096640 ≤ a0) = true := decide_eq_true c2
    clear c2
    obtain rfl := Option.some.inj H
    go_enter Try.func28, Try.ntmps28
    go_wp2
    go_ret
    exact ⟨by first | rfl | (simp; done) | (simp [*]; done), by repeat (first | exact Drawn0.refl _ | apply Drawn0.step)⟩
  · rw [if_neg c2] at H
    have c2b0 : decide (3758096640 ≤ a0) = false := decide_eq_false c2
    clear c2
    obtain rfl := Option.some.inj H
    go_enter Try.func28, Try.ntmps28
    go_wp2
    go_ret
    exact ⟨by first | rfl | (simp; done) | (simp [*]; done), by repeat (first | exact Drawn0.refl _ | apply Drawn0.step)⟩

end Go.Proofs.Ytafmjhmpnlkeiaa.P
