/- Seat 5's texts, merged by a program of this session: F12. Parts of the proof of IgmpWrites: whatever two messages, the law returns true. -/
import Derived.Test.YtafmjhmpnlkeiaaMA

/- Printed by myprint.py, a program of this session, over the kit's print. -/
namespace Go.Proofs.Ytafmjhmpnlkeiaa.P
open Go.RowKit Go.Proofs.YtafmjhmpnlkeiaaW.PrintWords Go.Proofs.YtafmjhmpnlkeiaaW.PrintLast Go.Proofs.YtafmjhmpnlkeiaaW.PrintMore
attribute [local go_sem] max2_int min2_int max_two min_two max_three min_three max_four min_four   -- for this text's walks alone
set_option linter.unusedVariables false
set_option linter.unusedSimpArgs false

/-! ### igmp_Same: function 12 -/
def igmp_Same.j0 : Nat → Bool → Int → Int → Int → Int → Bool → Int → Int → List Int → List (S44) → Int → Int → Int → Int → Bool → Int → Int → List Int → List (S44) → Option (Bool)
  | 0, _, _, _, _, _, _, _, _, _, _, _, _, _, _, _, _, _, _, _ => none
  | k + 1, x5, x107000, x107001, x107002, x107003, x107004, x107005, x107006, x107007, x107008, x108000, x108001, x108002, x108003, x108004, x108005, x108006, x108007, x108008 => if x5 = true then ((api_Addr.f k x107007 x108007).bind fun t108 => (if t108 = true then ((api_Record_30.f x107008 x108008).bind fun t109 => (some t109)) else (some false))) else (some false)
def igmp_Same.f (k : Nat) (a0_0 : Int) (a0_1 : Int) (a0_2 : Int) (a0_3 : Int) (a0_4 : Bool) (a0_5 : Int) (a0_6 : Int) (l0_7 : List Int) (l0_8 : List (S44)) (a1_0 : Int) (a1_1 : Int) (a1_2 : Int) (a1_3 : Int) (a1_4 : Bool) (a1_5 : Int) (a1_6 : Int) (l1_7 : List Int) (l1_8 : List (S44)) : Option (Bool) := if a0_0 = a1_0 then (if a0_1 = a1_1 then (if a0_2 = a1_2 then (if a0_3 = a1_3 then (if (a0_4 == a1_4) = true then (if a0_5 = a1_5 then (igmp_Same.j0 k (a0_6 == a1_6) a0_0 a0_1 a0_2 a0_3 a0_4 a0_5 a0_6 l0_7 l0_8 a1_0 a1_1 a1_2 a1_3 a1_4 a1_5 a1_6 l1_7 l1_8) else (igmp_Same.j0 k false a0_0 a0_1 a0_2 a0_3 a0_4 a0_5 a0_6 l0_7 l0_8 a1_0 a1_1 a1_2 a1_3 a1_4 a1_5 a1_6 l1_7 l1_8)) else (igmp_Same.j0 k false a0_0 a0_1 a0_2 a0_3 a0_4 a0_5 a0_6 l0_7 l0_8 a1_0 a1_1 a1_2 a1_3 a1_4 a1_5 a1_6 l1_7 l1_8)) else (igmp_Same.j0 k false a0_0 a0_1 a0_2 a0_3 a0_4 a0_5 a0_6 l0_7 l0_8 a1_0 a1_1 a1_2 a1_3 a1_4 a1_5 a1_6 l1_7 l1_8)) else (igmp_Same.j0 k false a0_0 a0_1 a0_2 a0_3 a0_4 a0_5 a0_6 l0_7 l0_8 a1_0 a1_1 a1_2 a1_3 a1_4 a1_5 a1_6 l1_7 l1_8)) else (igmp_Same.j0 k false a0_0 a0_1 a0_2 a0_3 a0_4 a0_5 a0_6 l0_7 l0_8 a1_0 a1_1 a1_2 a1_3 a1_4 a1_5 a1_6 l1_7 l1_8)) else (igmp_Same.j0 k false a0_0 a0_1 a0_2 a0_3 a0_4 a0_5 a0_6 l0_7 l0_8 a1_0 a1_1 a1_2 a1_3 a1_4 a1_5 a1_6 l1_7 l1_8)
theorem igmp_Same.mono_l : ∀ k, (∀ y0 y1 y2 y3 y4 y5 y6 y7 y8 y9 y10 y11 y12 y13 y14 y15 y16 y17 y18, LeO (igmp_Same.j0 k y0 y1 y2 y3 y4 y5 y6 y7 y8 y9 y10 y11 y12 y13 y14 y15 y16 y17 y18) (igmp_Same.j0 (k + 1) y0 y1 y2 y3 y4 y5 y6 y7 y8 y9 y10 y11 y12 y13 y14 y15 y16 y17 y18))
  | 0 => fun _ _ _ _ _ _ _ _ _ _ _ _ _ _ _ _ _ _ _ r h => by simp [igmp_Same.j0] at h
  | k + 1 => by
    have ih0 := igmp_Same.mono_l k
    · intro y0 y1 y2 y3 y4 y5 y6 y7 y8 y9 y10 y11 y12 y13 y14 y15 y16 y17 y18
      unfold igmp_Same.j0
      repeat' first
      | (with_reducible exact ih0 _ _ _ _ _ _ _ _ _ _ _ _ _ _ _ _ _ _ _)
      | (with_reducible exact api_Addr.mono _ _ _)
      | (with_reducible exact LeO.refl _)
      | (with_reducible exact LeO.none _)
      | (with_reducible refine LeO.ite ?_ ?_)
      | (with_reducible refine LeO.bind ?_ (fun _ => ?_))
      | exact ih0 _ _ _ _ _ _ _ _ _ _ _ _ _ _ _ _ _ _ _
      | exact api_Addr.mono _ _ _
      | exact LeO.none _
      | refine LeO.ite ?_ ?_
      | refine LeO.bind ?_ (fun _ => ?_)
theorem igmp_Same.mono : ∀ a0 a1 a2 a3 a4 a5 a6 a7 a8 a9 a10 a11 a12 a13 a14 a15 a16 a17 k, LeO (igmp_Same.f k a0 a1 a2 a3 a4 a5 a6 a7 a8 a9 a10 a11 a12 a13 a14 a15 a16 a17) (igmp_Same.f (k + 1) a0 a1 a2 a3 a4 a5 a6 a7 a8 a9 a10 a11 a12 a13 a14 a15 a16 a17) := by
  intro a0 a1 a2 a3 a4 a5 a6 a7 a8 a9 a10 a11 a12 a13 a14 a15 a16 a17 k
  have ih0 := igmp_Same.mono_l k
  unfold igmp_Same.f
  repeat' first
      | (with_reducible exact ih0 _ _ _ _ _ _ _ _ _ _ _ _ _ _ _ _ _ _ _)
      | (with_reducible exact api_Addr.mono _ _ _)
      | (with_reducible exact LeO.refl _)
      | (with_reducible exact LeO.none _)
      | (with_reducible refine LeO.ite ?_ ?_)
      | (with_reducible refine LeO.bind ?_ (fun _ => ?_))
      | exact ih0 _ _ _ _ _ _ _ _ _ _ _ _ _ _ _ _ _ _ _
      | exact api_Addr.mono _ _ _
      | exact LeO.none _
      | refine LeO.ite ?_ ?_
      | refine LeO.bind ?_ (fun _ => ?_)
set_option maxHeartbeats 8000000 in
set_option maxRecDepth 100000 in
theorem igmp_Same.calls (k : Nat) (a0_0 : Int) (a0_1 : Int) (a0_2 : Int) (a0_3 : Int) (a0_4 : Bool) (a0_5 : Int) (a0_6 : Int) (A0_7 : Option Addr) (c0_7 : Nat) (l0_7 : List Int) (A0_8 : Option Addr) (c0_8 : Nat) (l0_8 : List (S44)) (a1_0 : Int) (a1_1 : Int) (a1_2 : Int) (a1_3 : Int) (a1_4 : Bool) (a1_5 : Int) (a1_6 : Int) (A1_7 : Option Addr) (c1_7 : Nat) (l1_7 : List Int) (A1_8 : Option Addr) (c1_8 : Nat) (l1_8 : List (S44)) (r : Bool) (w : World) (hr0_7 : Kd.C (Kd.int .u32) w A0_7 l0_7.length l0_7) (hc0_7 : l0_7.length ≤ c0_7) (hr0_8 : Kd.C k44 w A0_8 l0_8.length l0_8) (hc0_8 : l0_8.length ≤ c0_8) (hr1_7 : Kd.C (Kd.int .u32) w A1_7 l1_7.length l1_7) (hc1_7 : l1_7.length ≤ c1_7) (hr1_8 : Kd.C k44 w A1_8 l1_8.length l1_8) (hc1_8 : l1_8.length ≤ c1_8) (h : igmp_Same.f k a0_0 a0_1 a0_2 a0_3 a0_4 a0_5 a0_6 l0_7 l0_8 a1_0 a1_1 a1_2 a1_3 a1_4 a1_5 a1_6 l1_7 l1_8 = some r) :
    Calls Try.prog 12 #[.agg #[.int .u8 a0_0, .int .i64 a0_1, .int .u8 a0_2, .int .u32 a0_3, .bool a0_4, .int .u8 a0_5, .int .u8 a0_6, .slice A0_7 l0_7.length c0_7, .slice A0_8 l0_8.length c0_8], .agg #[.int .u8 a1_0, .int .i64 a1_1, .int .u8 a1_2, .int .u32 a1_3, .bool a1_4, .int .u8 a1_5, .int .u8 a1_6, .slice A1_7 l1_7.length c1_7, .slice A1_8 l1_8.length c1_8]] w fun e w' => e = .returned (.bool r) ∧ Below w.heap.size w w' := by
  have hu27 := Try.underlying27
  have HR0_7 := Aside0.mk hr0_7
  have HC0_7 := Aside0.mk hc0_7
  clear hr0_7 hc0_7
  have HR0_8 := Aside0.mk hr0_8
  have HC0_8 := Aside0.mk hc0_8
  clear hr0_8 hc0_8
  have HR1_7 := Aside0.mk hr1_7
  have HC1_7 := Aside0.mk hc1_7
  clear hr1_7 hc1_7
  have HR1_8 := Aside0.mk hr1_8
  have HC1_8 := Aside0.mk hc1_8
  clear hr1_8 hc1_8
  have HB := Aside0.mk (Below.refl w.heap.size w)
  have H : (if a0_0 = a1_0 then (if a0_1 = a1_1 then (if a0_2 = a1_2 then (if a0_3 = a1_3 then (if (a0_4 == a1_4) = true then (if a0_5 = a1_5 then (igmp_Same.j0 k (a0_6 == a1_6) a0_0 a0_1 a0_2 a0_3 a0_4 a0_5 a0_6 l0_7 l0_8 a1_0 a1_1 a1_2 a1_3 a1_4 a1_5 a1_6 l1_7 l1_8) else (igmp_Same.j0 k false a0_0 a0_1 a0_2 a0_3 a0_4 a0_5 a0_6 l0_7 l0_8 a1_0 a1_1 a1_2 a1_3 a1_4 a1_5 a1_6 l1_7 l1_8)) else (igmp_Same.j0 k false a0_0 a0_1 a0_2 a0_3 a0_4 a0_5 a0_6 l0_7 l0_8 a1_0 a1_1 a1_2 a1_3 a1_4 a1_5 a1_6 l1_7 l1_8)) else (igmp_Same.j0 k false a0_0 a0_1 a0_2 a0_3 a0_4 a0_5 a0_6 l0_7 l0_8 a1_0 a1_1 a1_2 a1_3 a1_4 a1_5 a1_6 l1_7 l1_8)) else (igmp_Same.j0 k false a0_0 a0_1 a0_2 a0_3 a0_4 a0_5 a0_6 l0_7 l0_8 a1_0 a1_1 a1_2 a1_3 a1_4 a1_5 a1_6 l1_7 l1_8)) else (igmp_Same.j0 k false a0_0 a0_1 a0_2 a0_3 a0_4 a0_5 a0_6 l0_7 l0_8 a1_0 a1_1 a1_2 a1_3 a1_4 a1_5 a1_6 l1_7 l1_8)) else (igmp_Same.j0 k false a0_0 a0_1 a0_2 a0_3 a0_4 a0_5 a0_6 l0_7 l0_8 a1_0 a1_1 a1_2 a1_3 a1_4 a1_5 a1_6 l1_7 l1_8)) = some r := h
  clear h
  have HC3 := Aside0.mk H
  clear H
  go_enter Try.func12, Try.ntmps12
  go_upto_region 1 with (first | ((with_reducible refine gate_dst (N := 2) rfl ?_); refine box_event ?hg (N := 2) ?hd (cs := #[.int .u8 a0_0, .int .i64 a0_1, .int .u8 a0_2, .int .u32 a0_3, .bool a0_4, .int .u8 a0_5, .int .u8 a0_6, .slice A0_7 l0_7.length c0_7, .slice A0_8 l0_8.length c0_8]) (t := 27) ?hr ?_; (case hd => rfl); (case hg => rfl); (case hr => first | (go_simp; done) | (go_simp; rfl)); intro gb106 hg w4 hbox hb; have n0_ := Aside0.mk (below_step (by repeat (first | (with_reducible first | exact HB.out | apply below_alloc | apply pw_below_drewN | apply below_drew1) | exact HB.out)) hb); have n1_ := Aside0.mk (hbox); have n2_ := Aside0.mk ((by rw [hg]; exact (below_size (by repeat (first | (with_reducible first | exact HB.out | apply below_alloc | apply pw_below_drewN | apply below_drew1) | exact HB.out))) : w.heap.size ≤ gb106)); have n3_ := Aside0.mk ((by rw [hg]; exact (below_size (by repeat (first | (with_reducible first | exact HB.out | apply below_alloc | apply pw_below_drewN | apply below_drew1) | exact HB.out))) : w.heap.size ≤ gb106)); clear HB; have HB := n0_; have BK106 := n1_; have GW106 := n2_; have GE106 := n3_; clear n0_ n1_ n2_ n3_; clear hb hbox hg) | ((with_reducible refine gate_dst (N := 3) rfl ?_); refine box_event ?hg (N := 3) ?hd (cs := #[.int .u8 a1_0, .int .i64 a1_1, .int .u8 a1_2, .int .u32 a1_3, .bool a1_4, .int .u8 a1_5, .int .u8 a1_6, .slice A1_7 l1_7.length c1_7, .slice A1_8 l1_8.length c1_8]) (t := 27) ?hr ?_; (case hd => rfl); (case hg => rfl); (case hr => first | (go_simp; done) | (go_simp; rfl)); intro gb107 hg w5 hbox hb; have n0_ := Aside0.mk (blk_below (g := gb106) (o := .cells #[.int .u8 a0_0, .int .i64 a0_1, .int .u8 a0_2, .int .u32 a0_3, .bool a0_4, .int .u8 a0_5, .int .u8 a0_6, .slice A0_7 l0_7.length c0_7, .slice A0_8 l0_8.length c0_8] 27 (0, 0)) (by (with_reducible repeat (first | refine blk_drewN ?_ _ | refine blk_drew ?_ | refine blk_alloc ?_ _)); exact BK106.out) hb); have n1_ := Aside0.mk (below_step (by repeat (first | (with_reducible first | exact HB.out | apply below_alloc | apply pw_below_drewN | apply below_drew1 | refine below_set ?_ GE106.out) | exact HB.out)) hb); have n2_ := Aside0.mk (hbox); have n3_ := Aside0.mk ((by rw [hg]; exact (below_size (by repeat (first | (with_reducible first | exact HB.out | apply below_alloc | apply pw_below_drewN | apply below_drew1 | refine below_set ?_ GE106.out) | exact HB.out))) : w.heap.size ≤ gb107)); have n4_ := Aside0.mk ((by rw [hg]; exact (below_size (by repeat (first | (with_reducible first | exact HB.out | apply below_alloc | apply pw_below_drewN | apply below_drew1 | refine below_set ?_ GE106.out) | exact HB.out))) : w.heap.size ≤ gb107)); have n5_ := Aside0.mk ((by rw [hg]; exact Nat.ne_of_lt (blk_lt (g := gb106) (o := .cells #[.int .u8 a0_0, .int .i64 a0_1, .int .u8 a0_2, .int .u32 a0_3, .bool a0_4, .int .u8 a0_5, .int .u8 a0_6, .slice A0_7 l0_7.length c0_7, .slice A0_8 l0_8.length c0_8] 27 (0, 0)) (by (with_reducible repeat (first | refine blk_drewN ?_ _ | refine blk_drew ?_ | refine blk_alloc ?_ _)); exact BK106.out)) : gb106 ≠ gb107)); have n6_ := Aside0.mk ((by rw [hg]; exact Nat.ne_of_gt (blk_lt (g := gb106) (o := .cells #[.int .u8 a0_0, .int .i64 a0_1, .int .u8 a0_2, .int .u32 a0_3, .bool a0_4, .int .u8 a0_5, .int .u8 a0_6, .slice A0_7 l0_7.length c0_7, .slice A0_8 l0_8.length c0_8] 27 (0, 0)) (by (with_reducible repeat (first | refine blk_drewN ?_ _ | refine blk_drew ?_ | refine blk_alloc ?_ _)); exact BK106.out)) : gb107 ≠ gb106)); clear BK106; clear HB; have BK106 := n0_; have HB := n1_; have BK107 := n2_; have GW107 := n3_; have GE107 := n4_; have NB106_107 := n5_; have NB107_106 := n6_; clear n0_ n1_ n2_ n3_ n4_ n5_ n6_; clear hb hbox hg))
  (try simp only [Act.put, List.setIfInBounds_toArray, List.set_cons_zero, List.set_cons_succ])
  go_cut [5] (fun v5 wc => ∃ (kq : Nat) (x5_2 : Bool), v5 = .bool x5_2 ∧ Aside0 (igmp_Same.j0 kq x5_2 a0_0 a0_1 a0_2 a0_3 a0_4 a0_5 a0_6 l0_7 l0_8 a1_0 a1_1 a1_2 a1_3 a1_4 a1_5 a1_6 l1_7 l1_8 = some r) ∧ Aside0 (kq ≤ k) ∧ Aside0 (wc.heap[gb106]? = some (.cells #[.int .u8 a0_0, .int .i64 a0_1, .int .u8 a0_2, .int .u32 a0_3, .bool a0_4, .int .u8 a0_5, .int .u8 a0_6, (.slice A0_7 l0_7.length c0_7), (.slice A0_8 l0_8.length c0_8)] 27 (0, 0))) ∧ Aside0 (wc.heap[gb107]? = some (.cells #[.int .u8 a1_0, .int .i64 a1_1, .int .u8 a1_2, .int .u32 a1_3, .bool a1_4, .int .u8 a1_5, .int .u8 a1_6, (.slice A1_7 l1_7.length c1_7), (.slice A1_8 l1_8.length c1_8)] 27 (0, 0))) ∧ Aside0 (Below w.heap.size w wc))
  case first =>
    have H := HC3.out
    clear HC3
    by_cases c6 : a0_0 = a1_0
    · rw [if_pos c6] at H
      have c6b0 : (a0_0 == a1_0) = true := beq_iff_eq.mpr c6
      have c6b1 : (a0_0 != a1_0) = false := bne_eq_false_iff_eq.mpr c6
      clear c6
      (first | rw [c6b0] | (simp only [i64_w, i32_w]; rw [c6b0]) | skip)
      by_cases c7 : a0_1 = a1_1
      · rw [if_pos c7] at H
        have c7b0 : (a0_1 == a1_1) = true := beq_iff_eq.mpr c7
        have c7b1 : (a0_1 != a1_1) = false := bne_eq_false_iff_eq.mpr c7
        clear c7
        by_cases c8 : a0_2 = a1_2
        · rw [if_pos c8] at H
          have c8b0 : (a0_2 == a1_2) = true := beq_iff_eq.mpr c8
          have c8b1 : (a0_2 != a1_2) = false := bne_eq_false_iff_eq.mpr c8
          clear c8
          by_cases c9 : a0_3 = a1_3
          · rw [if_pos c9] at H
            have c9b0 : (a0_3 == a1_3) = true := beq_iff_eq.mpr c9
            have c9b1 : (a0_3 != a1_3) = false := bne_eq_false_iff_eq.mpr c9
            clear c9
            by_cases c10 : (a0_4 == a1_4) = true
            · rw [if_pos c10] at H
              have c10b0 : (a0_4 == a1_4) = true := c10
              (try (have c10b1 : decide (a0_4 = a1_4) = true := by simpa using c10))
              (try (have c10b2 : (a0_4 == a1_4) = true := by simpa using c10))
              clear c10
              by_cases c11 : a0_5 = a1_5
              · rw [if_pos c11] at H
                have c11b0 : (a0_5 == a1_5) = true := beq_iff_eq.mpr c11
                have c11b1 : (a0_5 != a1_5) = false := bne_eq_false_iff_eq.mpr c11
                clear c11
                have H' := Aside0.mk H
                clear H
                have hnb12 := NB106_107.out
                have hnc12 := NB107_106.out
                have hcz13_0 : w5.cell? ⟨gb106, 0, none⟩ = some (.int .u8 a0_0) := (blk_cell BK106.out 0).trans rfl
                have hcz13_1 : w5.cell? ⟨gb106, 1, none⟩ = some (.int .i64 a0_1) := (blk_cell BK106.out 1).trans rfl
                have hcz13_2 : w5.cell? ⟨gb106, 2, none⟩ = some (.int .u8 a0_2) := (blk_cell BK106.out 2).trans rfl
                have hcz13_3 : w5.cell? ⟨gb106, 3, none⟩ = some (.int .u32 a0_3) := (blk_cell BK106.out 3).trans rfl
                have hcz13_4 : w5.cell? ⟨gb106, 4, none⟩ = some (.bool a0_4) := (blk_cell BK106.out 4).trans rfl
                have hcz13_5 : w5.cell? ⟨gb106, 5, none⟩ = some (.int .u8 a0_5) := (blk_cell BK106.out 5).trans rfl
                have hcz13_6 : w5.cell? ⟨gb106, 6, none⟩ = some (.int .u8 a0_6) := (blk_cell BK106.out 6).trans rfl
                have hcz13_7 : w5.cell? ⟨gb106, 7, none⟩ = some (.slice A0_7 l0_7.length c0_7) := (blk_cell BK106.out 7).trans rfl
                have hcz13_8 : w5.cell? ⟨gb106, 8, none⟩ = some (.slice A0_8 l0_8.length c0_8) := (blk_cell BK106.out 8).trans rfl
                have hfz13_0 := blk_frozen BK106.out 0
                have hfz13_1 := blk_frozen BK106.out 1
                have hfz13_2 := blk_frozen BK106.out 2
                have hfz13_3 := blk_frozen BK106.out 3
                have hfz13_4 := blk_frozen BK106.out 4
                have hfz13_5 := blk_frozen BK106.out 5
                have hfz13_6 := blk_frozen BK106.out 6
                have hfz13_7 := blk_frozen BK106.out 7
                have hfz13_8 := blk_frozen BK106.out 8
                have hcz14_0 : w5.cell? ⟨gb107, 0, none⟩ = some (.int .u8 a1_0) := (blk_cell BK107.out 0).trans rfl
                have hcz14_1 : w5.cell? ⟨gb107, 1, none⟩ = some (.int .i64 a1_1) := (blk_cell BK107.out 1).trans rfl
                have hcz14_2 : w5.cell? ⟨gb107, 2, none⟩ = some (.int .u8 a1_2) := (blk_cell BK107.out 2).trans rfl
                have hcz14_3 : w5.cell? ⟨gb107, 3, none⟩ = some (.int .u32 a1_3) := (blk_cell BK107.out 3).trans rfl
                have hcz14_4 : w5.cell? ⟨gb107, 4, none⟩ = some (.bool a1_4) := (blk_cell BK107.out 4).trans rfl
                have hcz14_5 : w5.cell? ⟨gb107, 5, none⟩ = some (.int .u8 a1_5) := (blk_cell BK107.out 5).trans rfl
                have hcz14_6 : w5.cell? ⟨gb107, 6, none⟩ = some (.int .u8 a1_6) := (blk_cell BK107.out 6).trans rfl
                have hcz14_7 : w5.cell? ⟨gb107, 7, none⟩ = some (.slice A1_7 l1_7.length c1_7) := (blk_cell BK107.out 7).trans rfl
                have hcz14_8 : w5.cell? ⟨gb107, 8, none⟩ = some (.slice A1_8 l1_8.length c1_8) := (blk_cell BK107.out 8).trans rfl
                have hfz14_0 := blk_frozen BK107.out 0
                have hfz14_1 := blk_frozen BK107.out 1
                have hfz14_2 := blk_frozen BK107.out 2
                have hfz14_3 := blk_frozen BK107.out 3
                have hfz14_4 := blk_frozen BK107.out 4
                have hfz14_5 := blk_frozen BK107.out 5
                have hfz14_6 := blk_frozen BK107.out 6
                have hfz14_7 := blk_frozen BK107.out 7
                have hfz14_8 := blk_frozen BK107.out 8
                go_wp2
                go_meet
                case rel => exact ⟨_, ((a0_6 == a1_6)), (by first | rfl | (simp; done) | (simp [*]; done)), H', ⟨by first | omega | exact Nat.le_refl _⟩, ⟨by (with_reducible repeat (first | refine blk_drewN ?_ _ | refine blk_drew ?_ | refine blk_alloc ?_ _)); exact BK106.out⟩, ⟨by (with_reducible repeat (first | refine blk_drewN ?_ _ | refine blk_drew ?_ | refine blk_alloc ?_ _)); exact BK107.out⟩, ⟨by repeat (first | (with_reducible first | exact HB.out | apply below_alloc | apply pw_below_drewN | apply below_drew1 | refine below_set ?_ GE106.out | refine below_set ?_ GE107.out) | exact HB.out)⟩⟩
              · rw [if_neg c11] at H
                have c11b0 : (a0_5 == a1_5) = false := beq_eq_false_iff_ne.mpr c11
                have c11b1 : (a0_5 != a1_5) = true := bne_iff_ne.mpr c11
                have H' := Aside0.mk H
                clear H
                have hnb15 := NB106_107.out
                have hnc15 := NB107_106.out
                have hcz16_0 : w5.cell? ⟨gb106, 0, none⟩ = some (.int .u8 a0_0) := (blk_cell BK106.out 0).trans rfl
                have hcz16_1 : w5.cell? ⟨gb106, 1, none⟩ = some (.int .i64 a0_1) := (blk_cell BK106.out 1).trans rfl
                have hcz16_2 : w5.cell? ⟨gb106, 2, none⟩ = some (.int .u8 a0_2) := (blk_cell BK106.out 2).trans rfl
                have hcz16_3 : w5.cell? ⟨gb106, 3, none⟩ = some (.int .u32 a0_3) := (blk_cell BK106.out 3).trans rfl
                have hcz16_4 : w5.cell? ⟨gb106, 4, none⟩ = some (.bool a0_4) := (blk_cell BK106.out 4).trans rfl
                have hcz16_5 : w5.cell? ⟨gb106, 5, none⟩ = some (.int .u8 a0_5) := (blk_cell BK106.out 5).trans rfl
                have hcz16_6 : w5.cell? ⟨gb106, 6, none⟩ = some (.int .u8 a0_6) := (blk_cell BK106.out 6).trans rfl
                have hcz16_7 : w5.cell? ⟨gb106, 7, none⟩ = some (.slice A0_7 l0_7.length c0_7) := (blk_cell BK106.out 7).trans rfl
                have hcz16_8 : w5.cell? ⟨gb106, 8, none⟩ = some (.slice A0_8 l0_8.length c0_8) := (blk_cell BK106.out 8).trans rfl
                have hfz16_0 := blk_frozen BK106.out 0
                have hfz16_1 := blk_frozen BK106.out 1
                have hfz16_2 := blk_frozen BK106.out 2
                have hfz16_3 := blk_frozen BK106.out 3
                have hfz16_4 := blk_frozen BK106.out 4
                have hfz16_5 := blk_frozen BK106.out 5
                have hfz16_6 := blk_frozen BK106.out 6
                have hfz16_7 := blk_frozen BK106.out 7
                have hfz16_8 := blk_frozen BK106.out 8
                have hcz17_0 : w5.cell? ⟨gb107, 0, none⟩ = some (.int .u8 a1_0) := (blk_cell BK107.out 0).trans rfl
                have hcz17_1 : w5.cell? ⟨gb107, 1, none⟩ = some (.int .i64 a1_1) := (blk_cell BK107.out 1).trans rfl
                have hcz17_2 : w5.cell? ⟨gb107, 2, none⟩ = some (.int .u8 a1_2) := (blk_cell BK107.out 2).trans rfl
                have hcz17_3 : w5.cell? ⟨gb107, 3, none⟩ = some (.int .u32 a1_3) := (blk_cell BK107.out 3).trans rfl
                have hcz17_4 : w5.cell? ⟨gb107, 4, none⟩ = some (.bool a1_4) := (blk_cell BK107.out 4).trans rfl
                have hcz17_5 : w5.cell? ⟨gb107, 5, none⟩ = some (.int .u8 a1_5) := (blk_cell BK107.out 5).trans rfl
                have hcz17_6 : w5.cell? ⟨gb107, 6, none⟩ = some (.int .u8 a1_6) := (blk_cell BK107.out 6).trans rfl
                have hcz17_7 : w5.cell? ⟨gb107, 7, none⟩ = some (.slice A1_7 l1_7.length c1_7) := (blk_cell BK107.out 7).trans rfl
                have hcz17_8 : w5.cell? ⟨gb107, 8, none⟩ = some (.slice A1_8 l1_8.length c1_8) := (blk_cell BK107.out 8).trans rfl
                have hfz17_0 := blk_frozen BK107.out 0
                have hfz17_1 := blk_frozen BK107.out 1
                have hfz17_2 := blk_frozen BK107.out 2
                have hfz17_3 := blk_frozen BK107.out 3
                have hfz17_4 := blk_frozen BK107.out 4
                have hfz17_5 := blk_frozen BK107.out 5
                have hfz17_6 := blk_frozen BK107.out 6
                have hfz17_7 := blk_frozen BK107.out 7
                have hfz17_8 := blk_frozen BK107.out 8
                go_wp2
                go_meet
                case rel => exact ⟨_, (false), (by first | rfl | (simp; done) | (simp [*]; done)), H', ⟨by first | omega | exact Nat.le_refl _⟩, ⟨by (with_reducible repeat (first | refine blk_drewN ?_ _ | refine blk_drew ?_ | refine blk_alloc ?_ _)); exact BK106.out⟩, ⟨by (with_reducible repeat (first | refine blk_drewN ?_ _ | refine blk_drew ?_ | refine blk_alloc ?_ _)); exact BK107.out⟩, ⟨by repeat (first | (with_reducible first | exact HB.out | apply below_alloc | apply pw_below_drewN | apply below_drew1 | refine below_set ?_ GE106.out | refine below_set ?_ GE107.out) | exact HB.out)⟩⟩
            · rw [if_neg c10] at H
              have c10b0 : (a0_4 == a1_4) = false := by simpa using c10
              (try (have c10b1 : decide (a0_4 = a1_4) = false := by simpa using c10))
              (try (have c10b2 : (a0_4 == a1_4) = false := by simpa using c10))
              (try (have c10b3 : ¬ (a0_4 = a1_4) := by simpa using c10))
              clear c10
              have H' := Aside0.mk H
              clear H
              have hnb18 := NB106_107.out
              have hnc18 := NB107_106.out
              have hcz19_0 : w5.cell? ⟨gb106, 0, none⟩ = some (.int .u8 a0_0) := (blk_cell BK106.out 0).trans rfl
              have hcz19_1 : w5.cell? ⟨gb106, 1, none⟩ = some (.int .i64 a0_1) := (blk_cell BK106.out 1).trans rfl
              have hcz19_2 : w5.cell? ⟨gb106, 2, none⟩ = some (.int .u8 a0_2) := (blk_cell BK106.out 2).trans rfl
              have hcz19_3 : w5.cell? ⟨gb106, 3, none⟩ = some (.int .u32 a0_3) := (blk_cell BK106.out 3).trans rfl
              have hcz19_4 : w5.cell? ⟨gb106, 4, none⟩ = some (.bool a0_4) := (blk_cell BK106.out 4).trans rfl
              have hcz19_5 : w5.cell? ⟨gb106, 5, none⟩ = some (.int .u8 a0_5) := (blk_cell BK106.out 5).trans rfl
              have hcz19_6 : w5.cell? ⟨gb106, 6, none⟩ = some (.int .u8 a0_6) := (blk_cell BK106.out 6).trans rfl
              have hcz19_7 : w5.cell? ⟨gb106, 7, none⟩ = some (.slice A0_7 l0_7.length c0_7) := (blk_cell BK106.out 7).trans rfl
              have hcz19_8 : w5.cell? ⟨gb106, 8, none⟩ = some (.slice A0_8 l0_8.length c0_8) := (blk_cell BK106.out 8).trans rfl
              have hfz19_0 := blk_frozen BK106.out 0
              have hfz19_1 := blk_frozen BK106.out 1
              have hfz19_2 := blk_frozen BK106.out 2
              have hfz19_3 := blk_frozen BK106.out 3
              have hfz19_4 := blk_frozen BK106.out 4
              have hfz19_5 := blk_frozen BK106.out 5
              have hfz19_6 := blk_frozen BK106.out 6
              have hfz19_7 := blk_frozen BK106.out 7
              have hfz19_8 := blk_frozen BK106.out 8
              have hcz20_0 : w5.cell? ⟨gb107, 0, none⟩ = some (.int .u8 a1_0) := (blk_cell BK107.out 0).trans rfl
              have hcz20_1 : w5.cell? ⟨gb107, 1, none⟩ = some (.int .i64 a1_1) := (blk_cell BK107.out 1).trans rfl
              have hcz20_2 : w5.cell? ⟨gb107, 2, none⟩ = some (.int .u8 a1_2) := (blk_cell BK107.out 2).trans rfl
              have hcz20_3 : w5.cell? ⟨gb107, 3, none⟩ = some (.int .u32 a1_3) := (blk_cell BK107.out 3).trans rfl
              have hcz20_4 : w5.cell? ⟨gb107, 4, none⟩ = some (.bool a1_4) := (blk_cell BK107.out 4).trans rfl
              have hcz20_5 : w5.cell? ⟨gb107, 5, none⟩ = some (.int .u8 a1_5) := (blk_cell BK107.out 5).trans rfl
              have hcz20_6 : w5.cell? ⟨gb107, 6, none⟩ = some (.int .u8 a1_6) := (blk_cell BK107.out 6).trans rfl
              have hcz20_7 : w5.cell? ⟨gb107, 7, none⟩ = some (.slice A1_7 l1_7.length c1_7) := (blk_cell BK107.out 7).trans rfl
              have hcz20_8 : w5.cell? ⟨gb107, 8, none⟩ = some (.slice A1_8 l1_8.length c1_8) := (blk_cell BK107.out 8).trans rfl
              have hfz20_0 := blk_frozen BK107.out 0
              have hfz20_1 := blk_frozen BK107.out 1
              have hfz20_2 := blk_frozen BK107.out 2
              have hfz20_3 := blk_frozen BK107.out 3
              have hfz20_4 := blk_frozen BK107.out 4
              have hfz20_5 := blk_frozen BK107.out 5
              have hfz20_6 := blk_frozen BK107.out 6
              have hfz20_7 := blk_frozen BK107.out 7
              have hfz20_8 := blk_frozen BK107.out 8
              go_wp2
              go_meet
              case rel => exact ⟨_, (false), (by first | rfl | (simp; done) | (simp [*]; done)), H', ⟨by first | omega | exact Nat.le_refl _⟩, ⟨by (with_reducible repeat (first | refine blk_drewN ?_ _ | refine blk_drew ?_ | refine blk_alloc ?_ _)); exact BK106.out⟩, ⟨by (with_reducible repeat (first | refine blk_drewN ?_ _ | refine blk_drew ?_ | refine blk_alloc ?_ _)); exact BK107.out⟩, ⟨by repeat (first | (with_reducible first | exact HB.out | apply below_alloc | apply pw_below_drewN | apply below_drew1 | refine below_set ?_ GE106.out | refine below_set ?_ GE107.out) | exact HB.out)⟩⟩
          · rw [if_neg c9] at H
            have c9b0 : (a0_3 == a1_3) = false := beq_eq_false_iff_ne.mpr c9
            have c9b1 : (a0_3 != a1_3) = true := bne_iff_ne.mpr c9
            have H' := Aside0.mk H
            clear H
            have hnb21 := NB106_107.out
            have hnc21 := NB107_106.out
            have hcz22_0 : w5.cell? ⟨gb106, 0, none⟩ = some (.int .u8 a0_0) := (blk_cell BK106.out 0).trans rfl
            have hcz22_1 : w5.cell? ⟨gb106, 1, none⟩ = some (.int .i64 a0_1) := (blk_cell BK106.out 1).trans rfl
            have hcz22_2 : w5.cell? ⟨gb106, 2, none⟩ = some (.int .u8 a0_2) := (blk_cell BK106.out 2).trans rfl
            have hcz22_3 : w5.cell? ⟨gb106, 3, none⟩ = some (.int .u32 a0_3) := (blk_cell BK106.out 3).trans rfl
            have hcz22_4 : w5.cell? ⟨gb106, 4, none⟩ = some (.bool a0_4) := (blk_cell BK106.out 4).trans rfl
            have hcz22_5 : w5.cell? ⟨gb106, 5, none⟩ = some (.int .u8 a0_5) := (blk_cell BK106.out 5).trans rfl
            have hcz22_6 : w5.cell? ⟨gb106, 6, none⟩ = some (.int .u8 a0_6) := (blk_cell BK106.out 6).trans rfl
            have hcz22_7 : w5.cell? ⟨gb106, 7, none⟩ = some (.slice A0_7 l0_7.length c0_7) := (blk_cell BK106.out 7).trans rfl
            have hcz22_8 : w5.cell? ⟨gb106, 8, none⟩ = some (.slice A0_8 l0_8.length c0_8) := (blk_cell BK106.out 8).trans rfl
            have hfz22_0 := blk_frozen BK106.out 0
            have hfz22_1 := blk_frozen BK106.out 1
            have hfz22_2 := blk_frozen BK106.out 2
            have hfz22_3 := blk_frozen BK106.out 3
            have hfz22_4 := blk_frozen BK106.out 4
            have hfz22_5 := blk_frozen BK106.out 5
            have hfz22_6 := blk_frozen BK106.out 6
            have hfz22_7 := blk_frozen BK106.out 7
            have hfz22_8 := blk_frozen BK106.out 8
            have hcz23_0 : w5.cell? ⟨gb107, 0, none⟩ = some (.int .u8 a1_0) := (blk_cell BK107.out 0).trans rfl
            have hcz23_1 : w5.cell? ⟨gb107, 1, none⟩ = some (.int .i64 a1_1) := (blk_cell BK107.out 1).trans rfl
            have hcz23_2 : w5.cell? ⟨gb107, 2, none⟩ = some (.int .u8 a1_2) := (blk_cell BK107.out 2).trans rfl
            have hcz23_3 : w5.cell? ⟨gb107, 3, none⟩ = some (.int .u32 a1_3) := (blk_cell BK107.out 3).trans rfl
            have hcz23_4 : w5.cell? ⟨gb107, 4, none⟩ = some (.bool a1_4) := (blk_cell BK107.out 4).trans rfl
            have hcz23_5 : w5.cell? ⟨gb107, 5, none⟩ = some (.int .u8 a1_5) := (blk_cell BK107.out 5).trans rfl
            have hcz23_6 : w5.cell? ⟨gb107, 6, none⟩ = some (.int .u8 a1_6) := (blk_cell BK107.out 6).trans rfl
            have hcz23_7 : w5.cell? ⟨gb107, 7, none⟩ = some (.slice A1_7 l1_7.length c1_7) := (blk_cell BK107.out 7).trans rfl
            have hcz23_8 : w5.cell? ⟨gb107, 8, none⟩ = some (.slice A1_8 l1_8.length c1_8) := (blk_cell BK107.out 8).trans rfl
            have hfz23_0 := blk_frozen BK107.out 0
            have hfz23_1 := blk_frozen BK107.out 1
            have hfz23_2 := blk_frozen BK107.out 2
            have hfz23_3 := blk_frozen BK107.out 3
            have hfz23_4 := blk_frozen BK107.out 4
            have hfz23_5 := blk_frozen BK107.out 5
            have hfz23_6 := blk_frozen BK107.out 6
            have hfz23_7 := blk_frozen BK107.out 7
            have hfz23_8 := blk_frozen BK107.out 8
            go_wp2
            go_meet
            case rel => exact ⟨_, (false), (by first | rfl | (simp; done) | (simp [*]; done)), H', ⟨by first | omega | exact Nat.le_refl _⟩, ⟨by (with_reducible repeat (first | refine blk_drewN ?_ _ | refine blk_drew ?_ | refine blk_alloc ?_ _)); exact BK106.out⟩, ⟨by (with_reducible repeat (first | refine blk_drewN ?_ _ | refine blk_drew ?_ | refine blk_alloc ?_ _)); exact BK107.out⟩, ⟨by repeat (first | (with_reducible first | exact HB.out | apply below_alloc | apply pw_below_drewN | apply below_drew1 | refine below_set ?_ GE106.out | refine below_set ?_ GE107.out) | exact HB.out)⟩⟩
        · rw [if_neg c8] at H
          have c8b0 : (a0_2 == a1_2) = false := beq_eq_false_iff_ne.mpr c8
          have c8b1 : (a0_2 != a1_2) = true := bne_iff_ne.mpr c8
          have H' := Aside0.mk H
          clear H
          have hnb24 := NB106_107.out
          have hnc24 := NB107_106.out
          have hcz25_0 : w5.cell? ⟨gb106, 0, none⟩ = some (.int .u8 a0_0) := (blk_cell BK106.out 0).trans rfl
          have hcz25_1 : w5.cell? ⟨gb106, 1, none⟩ = some (.int .i64 a0_1) := (blk_cell BK106.out 1).trans rfl
          have hcz25_2 : w5.cell? ⟨gb106, 2, none⟩ = some (.int .u8 a0_2) := (blk_cell BK106.out 2).trans rfl
          have hcz25_3 : w5.cell? ⟨gb106, 3, none⟩ = some (.int .u32 a0_3) := (blk_cell BK106.out 3).trans rfl
          have hcz25_4 : w5.cell? ⟨gb106, 4, none⟩ = some (.bool a0_4) := (blk_cell BK106.out 4).trans rfl
          have hcz25_5 : w5.cell? ⟨gb106, 5, none⟩ = some (.int .u8 a0_5) := (blk_cell BK106.out 5).trans rfl
          have hcz25_6 : w5.cell? ⟨gb106, 6, none⟩ = some (.int .u8 a0_6) := (blk_cell BK106.out 6).trans rfl
          have hcz25_7 : w5.cell? ⟨gb106, 7, none⟩ = some (.slice A0_7 l0_7.length c0_7) := (blk_cell BK106.out 7).trans rfl
          have hcz25_8 : w5.cell? ⟨gb106, 8, none⟩ = some (.slice A0_8 l0_8.length c0_8) := (blk_cell BK106.out 8).trans rfl
          have hfz25_0 := blk_frozen BK106.out 0
          have hfz25_1 := blk_frozen BK106.out 1
          have hfz25_2 := blk_frozen BK106.out 2
          have hfz25_3 := blk_frozen BK106.out 3
          have hfz25_4 := blk_frozen BK106.out 4
          have hfz25_5 := blk_frozen BK106.out 5
          have hfz25_6 := blk_frozen BK106.out 6
          have hfz25_7 := blk_frozen BK106.out 7
          have hfz25_8 := blk_frozen BK106.out 8
          have hcz26_0 : w5.cell? ⟨gb107, 0, none⟩ = some (.int .u8 a1_0) := (blk_cell BK107.out 0).trans rfl
          have hcz26_1 : w5.cell? ⟨gb107, 1, none⟩ = some (.int .i64 a1_1) := (blk_cell BK107.out 1).trans rfl
          have hcz26_2 : w5.cell? ⟨gb107, 2, none⟩ = some (.int .u8 a1_2) := (blk_cell BK107.out 2).trans rfl
          have hcz26_3 : w5.cell? ⟨gb107, 3, none⟩ = some (.int .u32 a1_3) := (blk_cell BK107.out 3).trans rfl
          have hcz26_4 : w5.cell? ⟨gb107, 4, none⟩ = some (.bool a1_4) := (blk_cell BK107.out 4).trans rfl
          have hcz26_5 : w5.cell? ⟨gb107, 5, none⟩ = some (.int .u8 a1_5) := (blk_cell BK107.out 5).trans rfl
          have hcz26_6 : w5.cell? ⟨gb107, 6, none⟩ = some (.int .u8 a1_6) := (blk_cell BK107.out 6).trans rfl
          have hcz26_7 : w5.cell? ⟨gb107, 7, none⟩ = some (.slice A1_7 l1_7.length c1_7) := (blk_cell BK107.out 7).trans rfl
          have hcz26_8 : w5.cell? ⟨gb107, 8, none⟩ = some (.slice A1_8 l1_8.length c1_8) := (blk_cell BK107.out 8).trans rfl
          have hfz26_0 := blk_frozen BK107.out 0
          have hfz26_1 := blk_frozen BK107.out 1
          have hfz26_2 := blk_frozen BK107.out 2
          have hfz26_3 := blk_frozen BK107.out 3
          have hfz26_4 := blk_frozen BK107.out 4
          have hfz26_5 := blk_frozen BK107.out 5
          have hfz26_6 := blk_frozen BK107.out 6
          have hfz26_7 := blk_frozen BK107.out 7
          have hfz26_8 := blk_frozen BK107.out 8
          go_wp2
          go_meet
          case rel => exact ⟨_, (false), (by first | rfl | (simp; done) | (simp [*]; done)), H', ⟨by first | omega | exact Nat.le_refl _⟩, ⟨by (with_reducible repeat (first | refine blk_drewN ?_ _ | refine blk_drew ?_ | refine blk_alloc ?_ _)); exact BK106.out⟩, ⟨by (with_reducible repeat (first | refine blk_drewN ?_ _ | refine blk_drew ?_ | refine blk_alloc ?_ _)); exact BK107.out⟩, ⟨by repeat (first | (with_reducible first | exact HB.out | apply below_alloc | apply pw_below_drewN | apply below_drew1 | refine below_set ?_ GE106.out | refine below_set ?_ GE107.out) | exact HB.out)⟩⟩
      · rw [if_neg c7] at H
        have c7b0 : (a0_1 == a1_1) = false := beq_eq_false_iff_ne.mpr c7
        have c7b1 : (a0_1 != a1_1) = true := bne_iff_ne.mpr c7
        have H' := Aside0.mk H
        clear H
        have hnb27 := NB106_107.out
        have hnc27 := NB107_106.out
        have hcz28_0 : w5.cell? ⟨gb106, 0, none⟩ = some (.int .u8 a0_0) := (blk_cell BK106.out 0).trans rfl
        have hcz28_1 : w5.cell? ⟨gb106, 1, none⟩ = some (.int .i64 a0_1) := (blk_cell BK106.out 1).trans rfl
        have hcz28_2 : w5.cell? ⟨gb106, 2, none⟩ = some (.int .u8 a0_2) := (blk_cell BK106.out 2).trans rfl
        have hcz28_3 : w5.cell? ⟨gb106, 3, none⟩ = some (.int .u32 a0_3) := (blk_cell BK106.out 3).trans rfl
        have hcz28_4 : w5.cell? ⟨gb106, 4, none⟩ = some (.bool a0_4) := (blk_cell BK106.out 4).trans rfl
        have hcz28_5 : w5.cell? ⟨gb106, 5, none⟩ = some (.int .u8 a0_5) := (blk_cell BK106.out 5).trans rfl
        have hcz28_6 : w5.cell? ⟨gb106, 6, none⟩ = some (.int .u8 a0_6) := (blk_cell BK106.out 6).trans rfl
        have hcz28_7 : w5.cell? ⟨gb106, 7, none⟩ = some (.slice A0_7 l0_7.length c0_7) := (blk_cell BK106.out 7).trans rfl
        have hcz28_8 : w5.cell? ⟨gb106, 8, none⟩ = some (.slice A0_8 l0_8.length c0_8) := (blk_cell BK106.out 8).trans rfl
        have hfz28_0 := blk_frozen BK106.out 0
        have hfz28_1 := blk_frozen BK106.out 1
        have hfz28_2 := blk_frozen BK106.out 2
        have hfz28_3 := blk_frozen BK106.out 3
        have hfz28_4 := blk_frozen BK106.out 4
        have hfz28_5 := blk_frozen BK106.out 5
        have hfz28_6 := blk_frozen BK106.out 6
        have hfz28_7 := blk_frozen BK106.out 7
        have hfz28_8 := blk_frozen BK106.out 8
        have hcz29_0 : w5.cell? ⟨gb107, 0, none⟩ = some (.int .u8 a1_0) := (blk_cell BK107.out 0).trans rfl
        have hcz29_1 : w5.cell? ⟨gb107, 1, none⟩ = some (.int .i64 a1_1) := (blk_cell BK107.out 1).trans rfl
        have hcz29_2 : w5.cell? ⟨gb107, 2, none⟩ = some (.int .u8 a1_2) := (blk_cell BK107.out 2).trans rfl
        have hcz29_3 : w5.cell? ⟨gb107, 3, none⟩ = some (.int .u32 a1_3) := (blk_cell BK107.out 3).trans rfl
        have hcz29_4 : w5.cell? ⟨gb107, 4, none⟩ = some (.bool a1_4) := (blk_cell BK107.out 4).trans rfl
        have hcz29_5 : w5.cell? ⟨gb107, 5, none⟩ = some (.int .u8 a1_5) := (blk_cell BK107.out 5).trans rfl
        have hcz29_6 : w5.cell? ⟨gb107, 6, none⟩ = some (.int .u8 a1_6) := (blk_cell BK107.out 6).trans rfl
        have hcz29_7 : w5.cell? ⟨gb107, 7, none⟩ = some (.slice A1_7 l1_7.length c1_7) := (blk_cell BK107.out 7).trans rfl
        have hcz29_8 : w5.cell? ⟨gb107, 8, none⟩ = some (.slice A1_8 l1_8.length c1_8) := (blk_cell BK107.out 8).trans rfl
        have hfz29_0 := blk_frozen BK107.out 0
        have hfz29_1 := blk_frozen BK107.out 1
        have hfz29_2 := blk_frozen BK107.out 2
        have hfz29_3 := blk_frozen BK107.out 3
        have hfz29_4 := blk_frozen BK107.out 4
        have hfz29_5 := blk_frozen BK107.out 5
        have hfz29_6 := blk_frozen BK107.out 6
        have hfz29_7 := blk_frozen BK107.out 7
        have hfz29_8 := blk_frozen BK107.out 8
        go_wp2
        go_meet
        case rel => exact ⟨_, (false), (by first | rfl | (simp; done) | (simp [*]; done)), H', ⟨by first | omega | exact Nat.le_refl _⟩, ⟨by (with_reducible repeat (first | refine blk_drewN ?_ _ | refine blk_drew ?_ | refine blk_alloc ?_ _)); exact BK106.out⟩, ⟨by (with_reducible repeat (first | refine blk_drewN ?_ _ | refine blk_drew ?_ | refine blk_alloc ?_ _)); exact BK107.out⟩, ⟨by repeat (first | (with_reducible first | exact HB.out | apply below_alloc | apply pw_below_drewN | apply below_drew1 | refine below_set ?_ GE106.out | refine below_set ?_ GE107.out) | exact HB.out)⟩⟩
    · rw [if_neg c6] at H
      have c6b0 : (a0_0 == a1_0) = false := beq_eq_false_iff_ne.mpr c6
      have c6b1 : (a0_0 != a1_0) = true := bne_iff_ne.mpr c6
      (first | rw [c6b0] | (simp only [i64_w, i32_w]; rw [c6b0]) | skip)
      have H' := Aside0.mk H
      clear H
      have hnb30 := NB106_107.out
      have hnc30 := NB107_106.out
      have hcz31_0 : w5.cell? ⟨gb106, 0, none⟩ = some (.int .u8 a0_0) := (blk_cell BK106.out 0).trans rfl
      have hcz31_1 : w5.cell? ⟨gb106, 1, none⟩ = some (.int .i64 a0_1) := (blk_cell BK106.out 1).trans rfl
      have hcz31_2 : w5.cell? ⟨gb106, 2, none⟩ = some (.int .u8 a0_2) := (blk_cell BK106.out 2).trans rfl
      have hcz31_3 : w5.cell? ⟨gb106, 3, none⟩ = some (.int .u32 a0_3) := (blk_cell BK106.out 3).trans rfl
      have hcz31_4 : w5.cell? ⟨gb106, 4, none⟩ = some (.bool a0_4) := (blk_cell BK106.out 4).trans rfl
      have hcz31_5 : w5.cell? ⟨gb106, 5, none⟩ = some (.int .u8 a0_5) := (blk_cell BK106.out 5).trans rfl
      have hcz31_6 : w5.cell? ⟨gb106, 6, none⟩ = some (.int .u8 a0_6) := (blk_cell BK106.out 6).trans rfl
      have hcz31_7 : w5.cell? ⟨gb106, 7, none⟩ = some (.slice A0_7 l0_7.length c0_7) := (blk_cell BK106.out 7).trans rfl
      have hcz31_8 : w5.cell? ⟨gb106, 8, none⟩ = some (.slice A0_8 l0_8.length c0_8) := (blk_cell BK106.out 8).trans rfl
      have hfz31_0 := blk_frozen BK106.out 0
      have hfz31_1 := blk_frozen BK106.out 1
      have hfz31_2 := blk_frozen BK106.out 2
      have hfz31_3 := blk_frozen BK106.out 3
      have hfz31_4 := blk_frozen BK106.out 4
      have hfz31_5 := blk_frozen BK106.out 5
      have hfz31_6 := blk_frozen BK106.out 6
      have hfz31_7 := blk_frozen BK106.out 7
      have hfz31_8 := blk_frozen BK106.out 8
      have hcz32_0 : w5.cell? ⟨gb107, 0, none⟩ = some (.int .u8 a1_0) := (blk_cell BK107.out 0).trans rfl
      have hcz32_1 : w5.cell? ⟨gb107, 1, none⟩ = some (.int .i64 a1_1) := (blk_cell BK107.out 1).trans rfl
      have hcz32_2 : w5.cell? ⟨gb107, 2, none⟩ = some (.int .u8 a1_2) := (blk_cell BK107.out 2).trans rfl
      have hcz32_3 : w5.cell? ⟨gb107, 3, none⟩ = some (.int .u32 a1_3) := (blk_cell BK107.out 3).trans rfl
      have hcz32_4 : w5.cell? ⟨gb107, 4, none⟩ = some (.bool a1_4) := (blk_cell BK107.out 4).trans rfl
      have hcz32_5 : w5.cell? ⟨gb107, 5, none⟩ = some (.int .u8 a1_5) := (blk_cell BK107.out 5).trans rfl
      have hcz32_6 : w5.cell? ⟨gb107, 6, none⟩ = some (.int .u8 a1_6) := (blk_cell BK107.out 6).trans rfl
      have hcz32_7 : w5.cell? ⟨gb107, 7, none⟩ = some (.slice A1_7 l1_7.length c1_7) := (blk_cell BK107.out 7).trans rfl
      have hcz32_8 : w5.cell? ⟨gb107, 8, none⟩ = some (.slice A1_8 l1_8.length c1_8) := (blk_cell BK107.out 8).trans rfl
      have hfz32_0 := blk_frozen BK107.out 0
      have hfz32_1 := blk_frozen BK107.out 1
      have hfz32_2 := blk_frozen BK107.out 2
      have hfz32_3 := blk_frozen BK107.out 3
      have hfz32_4 := blk_frozen BK107.out 4
      have hfz32_5 := blk_frozen BK107.out 5
      have hfz32_6 := blk_frozen BK107.out 6
      have hfz32_7 := blk_frozen BK107.out 7
      have hfz32_8 := blk_frozen BK107.out 8
      go_wp2
      go_meet
      case rel => exact ⟨_, (false), (by first | rfl | (simp; done) | (simp [*]; done)), H', ⟨by first | omega | exact Nat.le_refl _⟩, ⟨by (with_reducible repeat (first | refine blk_drewN ?_ _ | refine blk_drew ?_ | refine blk_alloc ?_ _)); exact BK106.out⟩, ⟨by (with_reducible repeat (first | refine blk_drewN ?_ _ | refine blk_drew ?_ | refine blk_alloc ?_ _)); exact BK107.out⟩, ⟨by repeat (first | (with_reducible first | exact HB.out | apply below_alloc | apply pw_below_drewN | apply below_drew1 | refine below_set ?_ GE106.out | refine below_set ?_ GE107.out) | exact HB.out)⟩⟩
  case rest =>
    clear HC3
    try clear c1
    try clear c2
    try clear p2
    try clear c3
    try clear c6
    try clear c6b0
    try clear c6b1
    try clear c7
    try clear c7b0
    try clear c7b1
    try clear c8
    try clear c8b0
    try clear c8b1
    try clear c9
    try clear c9b0
    try clear c9b1
    try clear c10
    try clear c10b0
    try clear c10b1
    try clear c10b2
    try clear c11
    try clear c11b0
    try clear c11b1
    try clear c12
    try clear c15
    try clear c18
    try clear c21
    try clear c24
    try clear c27
    try clear c30
    try clear hcz13_0
    try clear hcz13_1
    try clear hcz13_2
    try clear hcz13_3
    try clear hcz13_4
    try clear hcz13_5
    try clear hcz13_6
    try clear hcz13_7
    try clear hcz13_8
    try clear hcz14_0
    try clear hcz14_1
    try clear hcz14_2
    try clear hcz14_3
    try clear hcz14_4
    try clear hcz14_5
    try clear hcz14_6
    try clear hcz14_7
    try clear hcz14_8
    try clear hcz16_0
    try clear hcz16_1
    try clear hcz16_2
    try clear hcz16_3
    try clear hcz16_4
    try clear hcz16_5
    try clear hcz16_6
    try clear hcz16_7
    try clear hcz16_8
    try clear hcz17_0
    try clear hcz17_1
    try clear hcz17_2
    try clear hcz17_3
    try clear hcz17_4
    try clear hcz17_5
    try clear hcz17_6
    try clear hcz17_7
    try clear hcz17_8
    try clear hcz19_0
    try clear hcz19_1
    try clear hcz19_2
    try clear hcz19_3
    try clear hcz19_4
    try clear hcz19_5
    try clear hcz19_6
    try clear hcz19_7
    try clear hcz19_8
    try clear hcz20_0
    try clear hcz20_1
    try clear hcz20_2
    try clear hcz20_3
    try clear hcz20_4
    try clear hcz20_5
    try clear hcz20_6
    try clear hcz20_7
    try clear hcz20_8
    try clear hcz22_0
    try clear hcz22_1
    try clear hcz22_2
    try clear hcz22_3
    try clear hcz22_4
    try clear hcz22_5
    try clear hcz22_6
    try clear hcz22_7
    try clear hcz22_8
    try clear hcz23_0
    try clear hcz23_1
    try clear hcz23_2
    try clear hcz23_3
    try clear hcz23_4
    try clear hcz23_5
    try clear hcz23_6
    try clear hcz23_7
    try clear hcz23_8
    try clear hcz25_0
    try clear hcz25_1
    try clear hcz25_2
    try clear hcz25_3
    try clear hcz25_4
    try clear hcz25_5
    try clear hcz25_6
    try clear hcz25_7
    try clear hcz25_8
    try clear hcz26_0
    try clear hcz26_1
    try clear hcz26_2
    try clear hcz26_3
    try clear hcz26_4
    try clear hcz26_5
    try clear hcz26_6
    try clear hcz26_7
    try clear hcz26_8
    try clear hcz28_0
    try clear hcz28_1
    try clear hcz28_2
    try clear hcz28_3
    try clear hcz28_4
    try clear hcz28_5
    try clear hcz28_6
    try clear hcz28_7
    try clear hcz28_8
    try clear hcz29_0
    try clear hcz29_1
    try clear hcz29_2
    try clear hcz29_3
    try clear hcz29_4
    try clear hcz29_5
    try clear hcz29_6
    try clear hcz29_7
    try clear hcz29_8
    try clear hcz31_0
    try clear hcz31_1
    try clear hcz31_2
    try clear hcz31_3
    try clear hcz31_4
    try clear hcz31_5
    try clear hcz31_6
    try clear hcz31_7
    try clear hcz31_8
    try clear hcz32_0
    try clear hcz32_1
    try clear hcz32_2
    try clear hcz32_3
    try clear hcz32_4
    try clear hcz32_5
    try clear hcz32_6
    try clear hcz32_7
    try clear hcz32_8
    try clear hfz13_0
    try clear hfz13_1
    try clear hfz13_2
    try clear hfz13_3
    try clear hfz13_4
    try clear hfz13_5
    try clear hfz13_6
    try clear hfz13_7
    try clear hfz13_8
    try clear hfz14_0
    try clear hfz14_1
    try clear hfz14_2
    try clear hfz14_3
    try clear hfz14_4
    try clear hfz14_5
    try clear hfz14_6
    try clear hfz14_7
    try clear hfz14_8
    try clear hfz16_0
    try clear hfz16_1
    try clear hfz16_2
    try clear hfz16_3
    try clear hfz16_4
    try clear hfz16_5
    try clear hfz16_6
    try clear hfz16_7
    try clear hfz16_8
    try clear hfz17_0
    try clear hfz17_1
    try clear hfz17_2
    try clear hfz17_3
    try clear hfz17_4
    try clear hfz17_5
    try clear hfz17_6
    try clear hfz17_7
    try clear hfz17_8
    try clear hfz19_0
    try clear hfz19_1
    try clear hfz19_2
    try clear hfz19_3
    try clear hfz19_4
    try clear hfz19_5
    try clear hfz19_6
    try clear hfz19_7
    try clear hfz19_8
    try clear hfz20_0
    try clear hfz20_1
    try clear hfz20_2
    try clear hfz20_3
    try clear hfz20_4
    try clear hfz20_5
    try clear hfz20_6
    try clear hfz20_7
    try clear hfz20_8
    try clear hfz22_0
    try clear hfz22_1
    try clear hfz22_2
    try clear hfz22_3
    try clear hfz22_4
    try clear hfz22_5
    try clear hfz22_6
    try clear hfz22_7
    try clear hfz22_8
    try clear hfz23_0
    try clear hfz23_1
    try clear hfz23_2
    try clear hfz23_3
    try clear hfz23_4
    try clear hfz23_5
    try clear hfz23_6
    try clear hfz23_7
    try clear hfz23_8
    try clear hfz25_0
    try clear hfz25_1
    try clear hfz25_2
    try clear hfz25_3
    try clear hfz25_4
    try clear hfz25_5
    try clear hfz25_6
    try clear hfz25_7
    try clear hfz25_8
    try clear hfz26_0
    try clear hfz26_1
    try clear hfz26_2
    try clear hfz26_3
    try clear hfz26_4
    try clear hfz26_5
    try clear hfz26_6
    try clear hfz26_7
    try clear hfz26_8
    try clear hfz28_0
    try clear hfz28_1
    try clear hfz28_2
    try clear hfz28_3
    try clear hfz28_4
    try clear hfz28_5
    try clear hfz28_6
    try clear hfz28_7
    try clear hfz28_8
    try clear hfz29_0
    try clear hfz29_1
    try clear hfz29_2
    try clear hfz29_3
    try clear hfz29_4
    try clear hfz29_5
    try clear hfz29_6
    try clear hfz29_7
    try clear hfz29_8
    try clear hfz31_0
    try clear hfz31_1
    try clear hfz31_2
    try clear hfz31_3
    try clear hfz31_4
    try clear hfz31_5
    try clear hfz31_6
    try clear hfz31_7
    try clear hfz31_8
    try clear hfz32_0
    try clear hfz32_1
    try clear hfz32_2
    try clear hfz32_3
    try clear hfz32_4
    try clear hfz32_5
    try clear hfz32_6
    try clear hfz32_7
    try clear hfz32_8
    obtain ⟨kq, x5_2, rfl, HA, HJ2, BK106, BK107, HB⟩ := hcut
    cases kq with
    | zero => exact absurd HA.out (by simp [igmp_Same.j0])
    | succ kj2 =>
      have H := HA.out
      clear HA
      simp only [igmp_Same.j0] at H
      by_cases c33 : x5_2 = true
      · subst c33
        have H1 : ((api_Addr.f kj2 l0_7 l1_7).bind fun t108 => (if t108 = true then ((api_Record_30.f l0_8 l1_8).bind fun t109 => (some t109)) else (some false))) = some r := by rw [if_pos rfl] at H; exact H
        clear H
        have H := H1
        clear H1
        replace H := Option.bind_eq_some_iff.mp H
        obtain ⟨t108, A340, H⟩ := H
        replace H : (if t108 = true then ((api_Record_30.f l0_8 l1_8).bind fun t109 => (some t109)) else (some false)) = some r := H
        have A34 := Aside0.mk A340
        clear A340
        by_cases c35 : t108 = true
        · subst c35
          have H1 : ((api_Record_30.f l0_8 l1_8).bind fun t109 => (some t109)) = some r := by rw [if_pos rfl] at H; exact H
          clear H
          have H := H1
          clear H1
          replace H := Option.bind_eq_some_iff.mp H
          obtain ⟨t109, A360, H⟩ := H
          replace H : (some t109) = some r := H
          have A36 := Aside0.mk A360
          clear A360
          obtain rfl := Option.some.inj H
          have hnb37 := NB106_107.out
          have hnc37 := NB107_106.out
          have hcz38_0 : wc.cell? ⟨gb106, 0, none⟩ = some (.int .u8 a0_0) := (blk_cell BK106.out 0).trans rfl
          have hcz38_1 : wc.cell? ⟨gb106, 1, none⟩ = some (.int .i64 a0_1) := (blk_cell BK106.out 1).trans rfl
          have hcz38_2 : wc.cell? ⟨gb106, 2, none⟩ = some (.int .u8 a0_2) := (blk_cell BK106.out 2).trans rfl
          have hcz38_3 : wc.cell? ⟨gb106, 3, none⟩ = some (.int .u32 a0_3) := (blk_cell BK106.out 3).trans rfl
          have hcz38_4 : wc.cell? ⟨gb106, 4, none⟩ = some (.bool a0_4) := (blk_cell BK106.out 4).trans rfl
          have hcz38_5 : wc.cell? ⟨gb106, 5, none⟩ = some (.int .u8 a0_5) := (blk_cell BK106.out 5).trans rfl
          have hcz38_6 : wc.cell? ⟨gb106, 6, none⟩ = some (.int .u8 a0_6) := (blk_cell BK106.out 6).trans rfl
          have hcz38_7 : wc.cell? ⟨gb106, 7, none⟩ = some (.slice A0_7 l0_7.length c0_7) := (blk_cell BK106.out 7).trans rfl
          have hcz38_8 : wc.cell? ⟨gb106, 8, none⟩ = some (.slice A0_8 l0_8.length c0_8) := (blk_cell BK106.out 8).trans rfl
          have hfz38_0 := blk_frozen BK106.out 0
          have hfz38_1 := blk_frozen BK106.out 1
          have hfz38_2 := blk_frozen BK106.out 2
          have hfz38_3 := blk_frozen BK106.out 3
          have hfz38_4 := blk_frozen BK106.out 4
          have hfz38_5 := blk_frozen BK106.out 5
          have hfz38_6 := blk_frozen BK106.out 6
          have hfz38_7 := blk_frozen BK106.out 7
          have hfz38_8 := blk_frozen BK106.out 8
          have hcz39_0 : wc.cell? ⟨gb107, 0, none⟩ = some (.int .u8 a1_0) := (blk_cell BK107.out 0).trans rfl
          have hcz39_1 : wc.cell? ⟨gb107, 1, none⟩ = some (.int .i64 a1_1) := (blk_cell BK107.out 1).trans rfl
          have hcz39_2 : wc.cell? ⟨gb107, 2, none⟩ = some (.int .u8 a1_2) := (blk_cell BK107.out 2).trans rfl
          have hcz39_3 : wc.cell? ⟨gb107, 3, none⟩ = some (.int .u32 a1_3) := (blk_cell BK107.out 3).trans rfl
          have hcz39_4 : wc.cell? ⟨gb107, 4, none⟩ = some (.bool a1_4) := (blk_cell BK107.out 4).trans rfl
          have hcz39_5 : wc.cell? ⟨gb107, 5, none⟩ = some (.int .u8 a1_5) := (blk_cell BK107.out 5).trans rfl
          have hcz39_6 : wc.cell? ⟨gb107, 6, none⟩ = some (.int .u8 a1_6) := (blk_cell BK107.out 6).trans rfl
          have hcz39_7 : wc.cell? ⟨gb107, 7, none⟩ = some (.slice A1_7 l1_7.length c1_7) := (blk_cell BK107.out 7).trans rfl
          have hcz39_8 : wc.cell? ⟨gb107, 8, none⟩ = some (.slice A1_8 l1_8.length c1_8) := (blk_cell BK107.out 8).trans rfl
          have hfz39_0 := blk_frozen BK107.out 0
          have hfz39_1 := blk_frozen BK107.out 1
          have hfz39_2 := blk_frozen BK107.out 2
          have hfz39_3 := blk_frozen BK107.out 3
          have hfz39_4 := blk_frozen BK107.out 4
          have hfz39_5 := blk_frozen BK107.out 5
          have hfz39_6 := blk_frozen BK107.out 6
          have hfz39_7 := blk_frozen BK107.out 7
          have hfz39_8 := blk_frozen BK107.out 8
          go_wp2_with (first | (go_at_call 29; (with_reducible refine (api_Addr.calls kj2 _ _ l0_7 _ _ l1_7 true _ ?side1 ?side2 ?side3 ?side4 A34.out).mono ?_); (case side1 => repeat (first | exact (Kd.C_below HR0_7.out HB.out) | (with_reducible refine Kd.C_alloc ?_ _) | (with_reducible refine Kd.C_drewN ?_ _) | (with_reducible refine Kd.C_drew ?_))); (case side2 => exact HC0_7.out); (case side3 => repeat (first | exact (Kd.C_below HR1_7.out HB.out) | (with_reducible refine Kd.C_alloc ?_ _) | (with_reducible refine Kd.C_drewN ?_ _) | (with_reducible refine Kd.C_drew ?_))); (case side4 => exact HC1_7.out); rintro e w' ⟨rfl, ⟨nd, rfl⟩⟩) | (go_at_call 30; (with_reducible refine (api_Record_30.calls _ _ l0_8 _ _ l1_8  t109 _ ?side1 ?side2 ?side3 ?side4 A36.out).mono ?_); (case side1 => repeat (first | exact (Kd.C_below HR0_8.out (by repeat (first | (with_reducible first | exact HB.out | apply below_alloc | apply pw_below_drewN | apply below_drew1 | refine below_set ?_ GE106.out | refine below_set ?_ GE107.out) | exact HB.out))) | (with_reducible refine Kd.C_alloc ?_ _) | (with_reducible refine Kd.C_drewN ?_ _) | (with_reducible refine Kd.C_drew ?_))); (case side2 => exact HC0_8.out); (case side3 => repeat (first | exact (Kd.C_below HR1_8.out (by repeat (first | (with_reducible first | exact HB.out | apply below_alloc | apply pw_below_drewN | apply below_drew1 | refine below_set ?_ GE106.out | refine below_set ?_ GE107.out) | exact HB.out))) | (with_reducible refine Kd.C_alloc ?_ _) | (with_reducible refine Kd.C_drewN ?_ _) | (with_reducible refine Kd.C_drew ?_))); (case side4 => exact HC1_8.out); rintro e w40 ⟨rfl, hb⟩; have n0_ := Aside0.mk (blk_below (g := gb106) (o := .cells #[.int .u8 a0_0, .int .i64 a0_1, .int .u8 a0_2, .int .u32 a0_3, .bool a0_4, .int .u8 a0_5, .int .u8 a0_6, .slice A0_7 l0_7.length c0_7, .slice A0_8 l0_8.length c0_8] 27 (0, 0)) (by (with_reducible repeat (first | refine blk_drewN ?_ _ | refine blk_drew ?_ | refine blk_alloc ?_ _)); exact BK106.out) hb); have n1_ := Aside0.mk (blk_below (g := gb107) (o := .cells #[.int .u8 a1_0, .int .i64 a1_1, .int .u8 a1_2, .int .u32 a1_3, .bool a1_4, .int .u8 a1_5, .int .u8 a1_6, .slice A1_7 l1_7.length c1_7, .slice A1_8 l1_8.length c1_8] 27 (0, 0)) (by (with_reducible repeat (first | refine blk_drewN ?_ _ | refine blk_drew ?_ | refine blk_alloc ?_ _)); exact BK107.out) hb); have n2_ := Aside0.mk (below_step (by repeat (first | (with_reducible first | exact HB.out | apply below_alloc | apply pw_below_drewN | apply below_drew1 | refine below_set ?_ GE106.out | refine below_set ?_ GE107.out) | exact HB.out)) hb); clear BK106; clear BK107; clear HB; have BK106 := n0_; have BK107 := n1_; have HB := n2_; clear n0_ n1_ n2_; (try clear hb); (try clear hb2); (try clear hk); (try clear hi)))
          go_ret
          exact ⟨by first | rfl | (simp [errW_none, errW_some] <;> rfl) | (simp [*, errW_none, errW_some] <;> rfl), by repeat (first | (with_reducible first | exact HB.out | apply below_alloc | apply pw_below_drewN | apply below_drew1 | refine below_set ?_ GE106.out | refine below_set ?_ GE107.out) | exact HB.out)⟩
        · replace c35 := Bool.eq_false_iff.mpr c35
          subst c35
          have H1 : (some false) = some r := by rw [if_neg (show ¬ (false = true) by decide)] at H; exact H
          clear H
          have H := H1
          clear H1
          obtain rfl := Option.some.inj H
          have hnb41 := NB106_107.out
          have hnc41 := NB107_106.out
          have hcz42_0 : wc.cell? ⟨gb106, 0, none⟩ = some (.int .u8 a0_0) := (blk_cell BK106.out 0).trans rfl
          have hcz42_1 : wc.cell? ⟨gb106, 1, none⟩ = some (.int .i64 a0_1) := (blk_cell BK106.out 1).trans rfl
          have hcz42_2 : wc.cell? ⟨gb106, 2, none⟩ = some (.int .u8 a0_2) := (blk_cell BK106.out 2).trans rfl
          have hcz42_3 : wc.cell? ⟨gb106, 3, none⟩ = some (.int .u32 a0_3) := (blk_cell BK106.out 3).trans rfl
          have hcz42_4 : wc.cell? ⟨gb106, 4, none⟩ = some (.bool a0_4) := (blk_cell BK106.out 4).trans rfl
          have hcz42_5 : wc.cell? ⟨gb106, 5, none⟩ = some (.int .u8 a0_5) := (blk_cell BK106.out 5).trans rfl
          have hcz42_6 : wc.cell? ⟨gb106, 6, none⟩ = some (.int .u8 a0_6) := (blk_cell BK106.out 6).trans rfl
          have hcz42_7 : wc.cell? ⟨gb106, 7, none⟩ = some (.slice A0_7 l0_7.length c0_7) := (blk_cell BK106.out 7).trans rfl
          have hcz42_8 : wc.cell? ⟨gb106, 8, none⟩ = some (.slice A0_8 l0_8.length c0_8) := (blk_cell BK106.out 8).trans rfl
          have hfz42_0 := blk_frozen BK106.out 0
          have hfz42_1 := blk_frozen BK106.out 1
          have hfz42_2 := blk_frozen BK106.out 2
          have hfz42_3 := blk_frozen BK106.out 3
          have hfz42_4 := blk_frozen BK106.out 4
          have hfz42_5 := blk_frozen BK106.out 5
          have hfz42_6 := blk_frozen BK106.out 6
          have hfz42_7 := blk_frozen BK106.out 7
          have hfz42_8 := blk_frozen BK106.out 8
          have hcz43_0 : wc.cell? ⟨gb107, 0, none⟩ = some (.int .u8 a1_0) := (blk_cell BK107.out 0).trans rfl
          have hcz43_1 : wc.cell? ⟨gb107, 1, none⟩ = some (.int .i64 a1_1) := (blk_cell BK107.out 1).trans rfl
          have hcz43_2 : wc.cell? ⟨gb107, 2, none⟩ = some (.int .u8 a1_2) := (blk_cell BK107.out 2).trans rfl
          have hcz43_3 : wc.cell? ⟨gb107, 3, none⟩ = some (.int .u32 a1_3) := (blk_cell BK107.out 3).trans rfl
          have hcz43_4 : wc.cell? ⟨gb107, 4, none⟩ = some (.bool a1_4) := (blk_cell BK107.out 4).trans rfl
          have hcz43_5 : wc.cell? ⟨gb107, 5, none⟩ = some (.int .u8 a1_5) := (blk_cell BK107.out 5).trans rfl
          have hcz43_6 : wc.cell? ⟨gb107, 6, none⟩ = some (.int .u8 a1_6) := (blk_cell BK107.out 6).trans rfl
          have hcz43_7 : wc.cell? ⟨gb107, 7, none⟩ = some (.slice A1_7 l1_7.length c1_7) := (blk_cell BK107.out 7).trans rfl
          have hcz43_8 : wc.cell? ⟨gb107, 8, none⟩ = some (.slice A1_8 l1_8.length c1_8) := (blk_cell BK107.out 8).trans rfl
          have hfz43_0 := blk_frozen BK107.out 0
          have hfz43_1 := blk_frozen BK107.out 1
          have hfz43_2 := blk_frozen BK107.out 2
          have hfz43_3 := blk_frozen BK107.out 3
          have hfz43_4 := blk_frozen BK107.out 4
          have hfz43_5 := blk_frozen BK107.out 5
          have hfz43_6 := blk_frozen BK107.out 6
          have hfz43_7 := blk_frozen BK107.out 7
          have hfz43_8 := blk_frozen BK107.out 8
          go_wp2_with (first | (go_at_call 29; (with_reducible refine (api_Addr.calls kj2 _ _ l0_7 _ _ l1_7 false _ ?side1 ?side2 ?side3 ?side4 A34.out).mono ?_); (case side1 => repeat (first | exact (Kd.C_below HR0_7.out HB.out) | (with_reducible refine Kd.C_alloc ?_ _) | (with_reducible refine Kd.C_drewN ?_ _) | (with_reducible refine Kd.C_drew ?_))); (case side2 => exact HC0_7.out); (case side3 => repeat (first | exact (Kd.C_below HR1_7.out HB.out) | (with_reducible refine Kd.C_alloc ?_ _) | (with_reducible refine Kd.C_drewN ?_ _) | (with_reducible refine Kd.C_drew ?_))); (case side4 => exact HC1_7.out); rintro e w' ⟨rfl, ⟨nd, rfl⟩⟩))
          go_ret
          exact ⟨by first | rfl | (simp [errW_none, errW_some] <;> rfl) | (simp [*, errW_none, errW_some] <;> rfl), by repeat (first | (with_reducible first | exact HB.out | apply below_alloc | apply pw_below_drewN | apply below_drew1 | refine below_set ?_ GE106.out | refine below_set ?_ GE107.out) | exact HB.out)⟩
      · replace c33 := Bool.eq_false_iff.mpr c33
        subst c33
        have H1 : (some false) = some r := by rw [if_neg (show ¬ (false = true) by decide)] at H; exact H
        clear H
        have H := H1
        clear H1
        obtain rfl := Option.some.inj H
        go_wp2
        go_ret
        exact ⟨by first | rfl | (simp [errW_none, errW_some] <;> rfl) | (simp [*, errW_none, errW_some] <;> rfl), by repeat (first | (with_reducible first | exact HB.out | apply below_alloc | apply pw_below_drewN | apply below_drew1 | refine below_set ?_ GE106.out | refine below_set ?_ GE107.out) | exact HB.out)⟩

end Go.Proofs.Ytafmjhmpnlkeiaa.P
