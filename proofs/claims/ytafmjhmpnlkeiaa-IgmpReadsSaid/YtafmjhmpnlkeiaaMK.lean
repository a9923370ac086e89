/- A part of the proof of IgmpReads: whatever the bytes, the law returns true. Merged by a program of this work, without what is not used: F15. -/
import Derived.Test.YtafmjhmpnlkeiaaMJ

namespace Go.Proofs.Ytafmjhmpnlkeiaa.P
open Go.RowKit Go.Proofs.YtafmjhmpnlkeiaaW.PrintWords Go.Proofs.YtafmjhmpnlkeiaaW.PrintLast Go.Proofs.YtafmjhmpnlkeiaaW.PrintMore
attribute [local go_sem] max2_int min2_int max_two min_two max_three min_three max_four min_four   -- for this text's walks alone
set_option linter.unusedVariables false
set_option linter.unusedSimpArgs false
/-! ### stolonref05_Decode: function 15 -/
mutual
def stolonref05_Decode.j3 : Nat → List Int → Int → Int → Int → Int → Int → Bool → Int → Int → List Int → List (S44) → Option (Int × Int × Int × Int × Bool × Int × Int × List Int × (List (S44)) × Int)
  | 0, _, _, _, _, _, _, _, _, _, _, _ => none
  | k + 1, x0, x5, x254000, x254001, x254002, x254003, x254004, x254005, x254006, x254007, x254008 => (stolonref05_Right.f k x254000 x254001 x254002 x254003 x254004 x254005 x254006 x254007 x254008).bind fun t272 => (if x5 = (x0.length : Int) then (if t272 = true then (some (x254000, x254001, x254002, x254003, x254004, x254005, x254006, x254007, x254008, 0)) else (some (0, 0, 0, 0, false, 0, 0, ([] : List Int), ([] : List (S44)), 2))) else (some (0, 0, 0, 0, false, 0, 0, ([] : List Int), ([] : List (S44)), 2)))
def stolonref05_Decode.j0 : Nat → List Int → Int → Int → Bool → Int → Int → Int → Int → Bool → Int → Int → Option (Int × Int × Int × Int × Bool × Int × Int × List Int × (List (S44)) × Int)
  | 0, _, _, _, _, _, _, _, _, _, _, _ => none
  | k + 1, x0, x5, x29, x31, x254000, x254001, x254002, x254003, x254004, x254005, x254006 => if x31 = true then ((stolonref05_at.f x0 4).bind fun t255 => (stolonref05_Decode.j3 k x0 x5 x254000 x254001 x254002 t255 x254004 x254005 x254006 ([] : List Int) ([] : List (S44)))) else (if x29 = 34 then ((stolonref05_records.f k x0).bind fun bt256 => (if bt256.2.2 = true then ((stolonref05_two.f x0 4).bind fun t261 => (if t261 = 0 then (stolonref05_Decode.j3 k x0 bt256.2.1 x254000 x254001 x254002 x254003 x254004 x254005 x254006 ([] : List Int) bt256.1) else (some (0, 0, 0, 0, false, 0, 0, ([] : List Int), ([] : List (S44)), 2)))) else (some (0, 0, 0, 0, false, 0, 0, ([] : List Int), ([] : List (S44)), 3)))) else (if x29 = 17 then ((stolonref05_at.f x0 4).bind fun t262 => (if (x0.length : Int) = 8 then (if 1 < (x0.length : Int) then (stolonref05_Decode.j1 k x0 x5 ((rd x0 1) == 0) x254000 2 x254002 t262 x254004 x254005 x254006) else (none)) else (stolonref05_Decode.j1 k x0 x5 false x254000 2 x254002 t262 x254004 x254005 x254006))) else (some (0, 0, 0, 0, false, 0, 0, ([] : List Int), ([] : List (S44)), 2))))
def stolonref05_Decode.j1 : Nat → List Int → Int → Bool → Int → Int → Int → Int → Bool → Int → Int → Option (Int × Int × Int × Int × Bool × Int × Int × List Int × (List (S44)) × Int)
  | 0, _, _, _, _, _, _, _, _, _, _ => none
  | k + 1, x0, x5, x70, x254000, x254001, x254002, x254003, x254004, x254005, x254006 => if x70 = true then (stolonref05_Decode.j2 k x0 x5 x254000 1 x254002 0 x254004 x254005 x254006) else (stolonref05_Decode.j2 k x0 x5 x254000 x254001 x254002 x254003 x254004 x254005 x254006)
def stolonref05_Decode.j2 : Nat → List Int → Int → Int → Int → Int → Int → Bool → Int → Int → Option (Int × Int × Int × Int × Bool × Int × Int × List Int × (List (S44)) × Int)
  | 0, _, _, _, _, _, _, _, _, _ => none
  | k + 1, x0, x5, x254000, x254001, x254002, x254003, x254004, x254005, x254006 => if (x0.length : Int) > 8 then (if (x0.length : Int) < 12 then (some (0, 0, 0, 0, false, 0, 0, ([] : List Int), ([] : List (S44)), 3)) else ((stolonref05_two.f x0 10).bind fun t264 => ((stolonref05_many.f k x0 12 t264).bind fun bt265 => (if bt265.2 = true then (if 8 < (x0.length : Int) then (if 9 < (x0.length : Int) then (stolonref05_Decode.j3 k x0 (wrap64 (12 + (wrap64 (4 * (bt265.1.length : Int))))) x254000 3 x254002 x254003 ((((Int.tdiv (rd x0 8) 8) % 256) % 2) == 1) (Int.tmod (rd x0 8) 8) (rd x0 9) bt265.1 ([] : List (S44))) else (none)) else (none)) else (some (0, 0, 0, 0, false, 0, 0, ([] : List Int), ([] : List (S44)), 3)))))) else (stolonref05_Decode.j3 k x0 x5 x254000 x254001 x254002 x254003 x254004 x254005 x254006 ([] : List Int) ([] : List (S44)))
end
def stolonref05_Decode.f (k : Nat) (l0 : List Int) : Option (Int × Int × Int × Int × Bool × Int × Int × List Int × (List (S44)) × Int) := if (l0.length : Int) < 8 then (some (0, 0, 0, 0, false, 0, 0, ([] : List Int), ([] : List (S44)), 3)) else ((stolonref02_Of.f k l0).bind fun t250 => (if t250 = 0 then (if 0 < (l0.length : Int) then (if 1 < (l0.length : Int) then (if (rd l0 0) = 18 then (stolonref05_Decode.j0 k l0 8 (rd l0 0) ((rd l0 0) == 18) (rd l0 0) 0 (rd l0 1) 0 false 0 0) else (if (rd l0 0) = 22 then (stolonref05_Decode.j0 k l0 8 (rd l0 0) ((rd l0 0) == 22) (rd l0 0) 0 (rd l0 1) 0 false 0 0) else (stolonref05_Decode.j0 k l0 8 (rd l0 0) ((rd l0 0) == 23) (rd l0 0) 0 (rd l0 1) 0 false 0 0))) else (none)) else (none)) else (some (0, 0, 0, 0, false, 0, 0, ([] : List Int), ([] : List (S44)), 4))))
def stolonref05_Decode.T5 : Bool × List (List Nat × List Nat) := (true, [([], []), ([0], [0]), ([1], [1]), ([], []), ([3], [3]), ([4], [4]), ([2, 5], [2, 5]), ([], []), ([7, 6, 0, 1, 2, 3, 4, 5, 6, 7], [6, 7])])
def stolonref05_Decode.B5 : List Nat := [0, 1, 3, 0, 8, 24, 63, 0, 255]
theorem stolonref05_Decode.tab5 : rtab .any (opsOf Try.f15 5) = stolonref05_Decode.T5 := by kernel_rfl
theorem stolonref05_Decode.bits5 : waitsOk stolonref05_Decode.T5.2 stolonref05_Decode.B5 = true := by kernel_rfl
set_option maxHeartbeats 8000000 in
set_option maxRecDepth 100000 in
theorem stolonref05_Decode.calls (k : Nat) (A0 : Option Addr) (c0 : Nat) (l0 : List Int) (r1 : Int) (r2 : Int) (r3 : Int) (r4 : Int) (r5 : Bool) (r6 : Int) (r7 : Int) (r8 : List Int) (r9 : List (S44)) (r10 : Int) (w : World) (hr0 : Kd.C (Kd.int .u8) w A0 l0.length l0) (hc0 : l0.length ≤ c0) (h : stolonref05_Decode.f k l0 = some (r1, r2, r3, r4, r5, r6, r7, r8, r9, r10)) :
    Calls Try.prog 15 #[.slice A0 l0.length c0] w fun e w' => ∃ v7_ v8_ : Value, e = .returned (.tuple #[.agg #[.int .u8 r1, .int .i64 r2, .int .u8 r3, .int .u32 r4, .bool r5, .int .u8 r6, .int .u8 r7, v7_, v8_], .int .i64 r10]) ∧ Kd.R (Kd.int .u32) 23 w' w.heap.size (fun _ => True) v7_ r8 ∧ Kd.S k44 44 w' w.heap.size (fun k_ => some k_ ≠ (v7_ : Value).ownBlock) v8_ r9 ∧ Below w.heap.size w w' := by
  have hu27 := Try.underlying27
  have HR0 := Aside0.mk hr0
  have HC0 := Aside0.mk hc0
  clear hr0 hc0
  have HB := Aside0.mk (Below.refl w.heap.size w)
  have H : (if (l0.length : Int) < 8 then (some (0, 0, 0, 0, false, 0, 0, ([] : List Int), ([] : List (S44)), 3)) else ((stolonref02_Of.f k l0).bind fun t250 => (if t250 = 0 then (if 0 < (l0.length : Int) then (if 1 < (l0.length : Int) then (if (rd l0 0) = 18 then (stolonref05_Decode.j0 k l0 8 (rd l0 0) ((rd l0 0) == 18) (rd l0 0) 0 (rd l0 1) 0 false 0 0) else (if (rd l0 0) = 22 then (stolonref05_Decode.j0 k l0 8 (rd l0 0) ((rd l0 0) == 22) (rd l0 0) 0 (rd l0 1) 0 false 0 0) else (stolonref05_Decode.j0 k l0 8 (rd l0 0) ((rd l0 0) == 23) (rd l0 0) 0 (rd l0 1) 0 false 0 0))) else (none)) else (none)) else (some (0, 0, 0, 0, false, 0, 0, ([] : List Int), ([] : List (S44)), 4))))) = some (r1, r2, r3, r4, r5, r6, r7, r8, r9, r10) := h
  clear h
  by_cases c2 : (l0.length : Int) < 8
  · rw [if_pos c2] at H
    have c2b0 : decide ((l0.length : Int) < 8) = true := decide_eq_true c2
    have c2b1 : decide (l0.length < 8) = true := decide_eq_true (by omega)
    clear c2
    simp only [Option.some.injEq, Prod.mk.injEq] at H
    obtain ⟨rfl, rfl, rfl, rfl, rfl, rfl, rfl, rfl, rfl, rfl⟩ := H
    go_enter Try.func15, Try.ntmps15
    go_wp2_with (first | ((with_reducible refine gate_dst (N := 2) rfl ?_); refine box_event ?hg (N := 2) ?hd (cs := #[.int .u8 0, .int .i64 0, .int .u8 0, .int .u32 0, .bool false, .int .u8 0, .int .u8 0, .slice none 0 0, .slice none 0 0]) (t := 27) ?hr ?_; (case hd => rfl); (case hg => rfl); (case hr => first | (go_simp; done) | (go_simp; rfl)); intro gb249 hg w3 hbox hb; have n0_ := Aside0.mk (below_step (by repeat (first | (with_reducible first | exact HB.out | apply below_alloc | apply pw_below_drewN | apply below_drew1) | exact HB.out)) hb); have n1_ := Aside0.mk (hbox); have n2_ := Aside0.mk ((by rw [hg]; exact (below_size (by repeat (first | (with_reducible first | exact HB.out | apply below_alloc | apply pw_below_drewN | apply below_drew1) | exact HB.out))) : w.heap.size ≤ gb249)); have n3_ := Aside0.mk ((by rw [hg]; exact (below_size (by repeat (first | (with_reducible first | exact HB.out | apply below_alloc | apply pw_below_drewN | apply below_drew1) | exact HB.out))) : w.heap.size ≤ gb249)); clear HB; have HB := n0_; have BK249 := n1_; have GW249 := n2_; have GE249 := n3_; clear n0_ n1_ n2_ n3_; clear hb hbox hg; obtain ⟨hcz4_0, hcz4_1, hcz4_2, hcz4_3, hcz4_4, hcz4_5, hcz4_6, hcz4_7, hcz4_8, hfz4_0, hfz4_1, hfz4_2, hfz4_3, hfz4_4, hfz4_5, hfz4_6, hfz4_7, hfz4_8⟩ := blk9 BK249.out))
    refine bodyPost_ret (results_ct rfl _ _ gb249 27 #[.int .u8 0, .int .i64 0, .int .u8 0, .int .u32 0, .bool false, .int .u8 0, .int .u8 0, .slice none 0 0, .slice none 0 0] (0, 0) _ rfl (by (with_reducible repeat (first | refine blk_drewN ?_ _ | refine blk_drew ?_ | refine blk_alloc ?_ _)); refine blk_put (cs := #[.int .u8 0, .int .i64 0, .int .u8 0, .int .u32 0, .bool false, .int .u8 0, .int .u8 0, .slice none 0 0, .slice none 0 0]) ?_ 8 _ rfl; (with_reducible repeat (first | refine blk_drewN ?_ _ | refine blk_drew ?_ | refine blk_alloc ?_ _)); refine blk_put (cs := #[.int .u8 0, .int .i64 0, .int .u8 0, .int .u32 0, .bool false, .int .u8 0, .int .u8 0, .slice none 0 0, .slice none 0 0]) ?_ 7 _ rfl; (with_reducible repeat (first | refine blk_drewN ?_ _ | refine blk_drew ?_ | refine blk_alloc ?_ _)); refine blk_put (cs := #[.int .u8 0, .int .i64 0, .int .u8 0, .int .u32 0, .bool false, .int .u8 0, .int .u8 0, .slice none 0 0, .slice none 0 0]) ?_ 6 _ rfl; (with_reducible repeat (first | refine blk_drewN ?_ _ | refine blk_drew ?_ | refine blk_alloc ?_ _)); refine blk_put (cs := #[.int .u8 0, .int .i64 0, .int .u8 0, .int .u32 0, .bool false, .int .u8 0, .int .u8 0, .slice none 0 0, .slice none 0 0]) ?_ 5 _ rfl; (with_reducible repeat (first | refine blk_drewN ?_ _ | refine blk_drew ?_ | refine blk_alloc ?_ _)); refine blk_put (cs := #[.int .u8 0, .int .i64 0, .int .u8 0, .int .u32 0, .bool false, .int .u8 0, .int .u8 0, .slice none 0 0, .slice none 0 0]) ?_ 4 _ rfl; (with_reducible repeat (first | refine blk_drewN ?_ _ | refine blk_drew ?_ | refine blk_alloc ?_ _)); refine blk_put (cs := #[.int .u8 0, .int .i64 0, .int .u8 0, .int .u32 0, .bool false, .int .u8 0, .int .u8 0, .slice none 0 0, .slice none 0 0]) ?_ 3 _ rfl; (with_reducible repeat (first | refine blk_drewN ?_ _ | refine blk_drew ?_ | refine blk_alloc ?_ _)); refine blk_put (cs := #[.int .u8 0, .int .i64 0, .int .u8 0, .int .u32 0, .bool false, .int .u8 0, .int .u8 0, .slice none 0 0, .slice none 0 0]) ?_ 2 _ rfl; (with_reducible repeat (first | refine blk_drewN ?_ _ | refine blk_drew ?_ | refine blk_alloc ?_ _)); refine blk_put (cs := #[.int .u8 0, .int .i64 0, .int .u8 0, .int .u32 0, .bool false, .int .u8 0, .int .u8 0, .slice none 0 0, .slice none 0 0]) ?_ 1 _ rfl; (with_reducible repeat (first | refine blk_drewN ?_ _ | refine blk_drew ?_ | refine blk_alloc ?_ _)); refine blk_put (cs := #[.int .u8 0, .int .i64 0, .int .u8 0, .int .u32 0, .bool false, .int .u8 0, .int .u8 0, .slice none 0 0, .slice none 0 0]) ?_ 0 _ rfl; (with_reducible repeat (first | refine blk_drewN ?_ _ | refine blk_drew ?_ | refine blk_alloc ?_ _)); exact BK249.out) Try.underlying27 rfl (by kernel_rfl)) rfl ?_
    exact ⟨_, _, by first | rfl | (simp [errW_none, errW_some] <;> rfl) | (simp [*, errW_none, errW_some] <;> rfl), by first | exact Kd.R_nil _ _ _ _ _ | exact Kd.N_nil _ _ _ _ _ | exact Kd.V_nil _ _ _ _ _ | exact Kd.Q_nil _ _ _ _ _ | exact Kd.S_nil _ _ _ _ _, by first | exact Kd.S_nil _ _ _ _ _ | exact Kd.N_nil _ _ _ _ _ | exact Kd.V_nil _ _ _ _ _ | exact Kd.Q_nil _ _ _ _ _ | exact Kd.R_nil _ _ _ _ _, by repeat (first | (with_reducible first | exact HB.out | apply below_alloc | apply pw_below_drewN | apply below_drew1 | refine below_set ?_ GE249.out) | exact HB.out)⟩
  · rw [if_neg c2] at H
    have c2b0 : decide ((l0.length : Int) < 8) = false := decide_eq_false c2
    have c2b1 : decide (l0.length < 8) = false := decide_eq_false (by omega)
    clear c2
    replace H := Option.bind_eq_some_iff.mp H
    obtain ⟨t250, A50, H⟩ := H
    replace H : (if t250 = 0 then (if 0 < (l0.length : Int) then (if 1 < (l0.length : Int) then (if (rd l0 0) = 18 then (stolonref05_Decode.j0 k l0 8 (rd l0 0) ((rd l0 0) == 18) (rd l0 0) 0 (rd l0 1) 0 false 0 0) else (if (rd l0 0) = 22 then (stolonref05_Decode.j0 k l0 8 (rd l0 0) ((rd l0 0) == 22) (rd l0 0) 0 (rd l0 1) 0 false 0 0) else (stolonref05_Decode.j0 k l0 8 (rd l0 0) ((rd l0 0) == 23) (rd l0 0) 0 (rd l0 1) 0 false 0 0))) else (none)) else (none)) else (some (0, 0, 0, 0, false, 0, 0, ([] : List Int), ([] : List (S44)), 4))) = some (r1, r2, r3, r4, r5, r6, r7, r8, r9, r10) := H
    have A5 := Aside0.mk A50
    clear A50
    by_cases c6 : t250 = 0
    · rw [if_pos c6] at H
      have c6b0 : (t250 == 0) = true := beq_iff_eq.mpr c6
      have c6b1 : (t250 != 0) = false := bne_eq_false_iff_eq.mpr c6
      clear c6
      by_cases c7 : 0 < (l0.length : Int)
      · rw [if_pos c7] at H
        have c7b0 : decide (0 < (l0.length : Int)) = true := decide_eq_true c7
        have c7b1 : decide (0 < l0.length) = true := decide_eq_true (by omega)
        clear c7
        by_cases c8 : 1 < (l0.length : Int)
        · rw [if_pos c8] at H
          have c8b0 : decide (1 < (l0.length : Int)) = true := decide_eq_true c8
          have c8b1 : decide (1 < l0.length) = true := decide_eq_true (by omega)
          clear c8
          have HC9 := Aside0.mk H
          clear H
          go_enter Try.func15, Try.ntmps15
          try go_wp2_with (first | ((with_reducible refine gate_dst (N := 2) rfl ?_); refine box_event ?hg (N := 2) ?hd (cs := #[.int .u8 0, .int .i64 0, .int .u8 0, .int .u32 0, .bool false, .int .u8 0, .int .u8 0, .slice none 0 0, .slice none 0 0]) (t := 27) ?hr ?_; (case hd => rfl); (case hg => rfl); (case hr => first | (go_simp; done) | (go_simp; rfl)); intro gb249 hg w10 hbox hb; have n0_ := Aside0.mk (below_step (by repeat (first | (with_reducible first | exact HB.out | apply below_alloc | apply pw_below_drewN | apply below_drew1) | exact HB.out)) hb); have n1_ := Aside0.mk (hbox); have n2_ := Aside0.mk ((by rw [hg]; exact (below_size (by repeat (first | (with_reducible first | exact HB.out | apply below_alloc | apply pw_below_drewN | apply below_drew1) | exact HB.out))) : w.heap.size ≤ gb249)); have n3_ := Aside0.mk ((by rw [hg]; exact (below_size (by repeat (first | (with_reducible first | exact HB.out | apply below_alloc | apply pw_below_drewN | apply below_drew1) | exact HB.out))) : w.heap.size ≤ gb249)); clear HB; have HB := n0_; have BK249 := n1_; have GW249 := n2_; have GE249 := n3_; clear n0_ n1_ n2_ n3_; clear hb hbox hg) | ((with_reducible refine gate_callee (f := 38) rfl ?_); refine goesL_ (some 17) rfl rfl Try.func38 (by kernel_rfl) rfl #[.slice A0 l0.length c0] rfl (by (try simp only [List.map_toArray, List.map_cons, List.map_nil]); first | done | rfl | (simp only [List.length_drop, List.length_take]; rfl)) ?_; (with_reducible refine (stolonref02_Of.calls k _ _ l0 t250 _ ?side1 ?side2 A5.out).mono ?_); (case side1 => repeat (first | exact (Kd.C_below HR0.out HB.out) | (with_reducible refine Kd.C_alloc ?_ _) | (with_reducible refine Kd.C_drewN ?_ _) | (with_reducible refine Kd.C_drew ?_))); (case side2 => exact HC0.out); rintro e w' ⟨rfl, ⟨nd, rfl⟩⟩; refine ⟨_, rfl, ?_⟩; (try (rw [drewN_self w10]; generalize hq_ : World.drewN w10 _ = w10; have n0_ : Aside0 (w10.heap[gb249]? = some (.cells #[.int .u8 0, .int .i64 0, .int .u8 0, .int .u32 0, .bool false, .int .u8 0, .int .u8 0, .slice none 0 0, .slice none 0 0] 27 (0, 0))) := ⟨by rw [← hq_]; exact (by (with_reducible repeat (first | refine blk_drewN ?_ _ | refine blk_drew ?_ | refine blk_alloc ?_ _)); exact BK249.out)⟩; have n1_ : Aside0 (Below w.heap.size w w10) := ⟨by rw [← hq_]; exact (by repeat (first | (with_reducible first | exact HB.out | apply below_alloc | apply pw_below_drewN | apply below_drew1 | refine below_set ?_ GE249.out) | exact HB.out))⟩; clear BK249 HB hq_; have BK249 := n0_; have HB := n1_; clear n0_ n1_))))
          have n0_ := Aside0.mk (blk_drew BK249.out)
          have n1_ := Aside0.mk (below_drew1 HB.out)
          clear BK249
          clear HB
          have BK249 := n0_
          have HB := n1_
          clear n0_ n1_
          have p251 : 0 ≤ (0 : Int) := (by omega)
          have q251 : 0 < (l0.length : Int) := of_decide_eq_true (by first | (with_reducible assumption) | assumption)
          obtain ⟨ad251, e251, hx251_0⟩ := Kd.at_int HR0.out 0 p251 q251
          have hw251_0 := hx251_0
          (try rw [show ((0 : Int)).toNat = 0 from rfl] at hw251_0)
          (try rw [show 0 * 1 = 0 from rfl] at hw251_0)
          (try rw [Addr.add_zero'] at hw251_0)
          cases e251
          have qi251 : (0 < l0.length) = True := eq_true (by omega)
          (try rw [show ((0 : Int)).toNat = 0 from rfl] at hx251_0)
          (try rw [Addr.add_zero'] at hx251_0)
          replace hx251_0 := (HB.out.cell (World.block_lt_of_cell? w _ hx251_0)).trans hx251_0
          replace p251 := eq_true p251
          replace q251 := eq_true q251
          have p252 : 0 ≤ (1 : Int) := (by omega)
          have q252 : 1 < (l0.length : Int) := of_decide_eq_true (by first | (with_reducible assumption) | assumption)
          obtain ⟨ad252, e252, hx252_0⟩ := Kd.at_int HR0.out 1 p252 q252
          have hw252_0 := hx252_0
          (try rw [show ((1 : Int)).toNat = 1 from rfl] at hw252_0)
          (try rw [show 1 * 1 = 1 from rfl] at hw252_0)
          (try simp only [Nat.reduceMul, Nat.reduceEqDiff, Go.Addr.add, ↓reduceIte] at hw252_0)
          obtain rfl : ad251 = ad252 := (by injection e252)
          (try simp only [show (1 : Int).toNat = 1 from rfl, Nat.reduceMul, Nat.reduceEqDiff, Go.Addr.add, ↓reduceIte] at hx252_0)
          have qi252 : (1 < l0.length) = True := eq_true (by omega)
          (try rw [show ((1 : Int)).toNat = 1 from rfl] at hx252_0)
          replace hx252_0 := (HB.out.cell (World.block_lt_of_cell? w _ hx252_0)).trans hx252_0
          replace p252 := eq_true p252
          replace q252 := eq_true q252
          refine start_ (n := 9) (S := fun w' => w'.cell? ad251 = some (.int .u8 (rd l0 0)) ∧ w'.cell? ⟨ad251.block, ad251.off + 1, none⟩ = some (.int .u8 (rd l0 1))) (ds := []) #[false, false, false, false, false, false, false, false, false] (by kernel_rfl) rfl rfl ⟨((HB.out.cell (World.block_lt_of_cell? w _ hw251_0)).trans hw251_0), ((HB.out.cell (World.block_lt_of_cell? w _ hw252_0)).trans hw252_0)⟩ (fun hHeld => ?_); refine with_tabW stolonref05_Decode.tab5 stolonref05_Decode.bits5 (fun HT_ HW_ => ?_)
          generalize w10.drew = w11 at BK249 HB hx251_0 hx252_0 hHeld ⊢
          refine pure_ (i := 0) (N := some 20) (v := ?_) (a' := ?_) #[true, false, false, false, false, false, false, false, false] rfl rfl (any_of HT_.out (by kernel_rfl)) (fun _ _ _ h => h) (Or.inl ⟨by rfl, ?_⟩) ?_ ?_
          rotate_left
          · intro w'
            go_simp
            with_reducible rfl
          rotate_left
          · simp only [Act.put, List.setIfInBounds_toArray, List.set_cons_zero, List.set_cons_succ, i64_w, i32_w]
            rfl
          refine pure_ (i := 1) (N := some 21) (v := ?_) (a' := ?_) #[true, true, false, false, false, false, false, false, false] rfl rfl (any_of HT_.out (by kernel_rfl)) (fun _ _ _ h => h) (Or.inl ⟨by rfl, ?_⟩) ?_ ?_
          rotate_left
          · intro w'
            go_simp
            with_reducible rfl
          rotate_left
          · simp only [Act.put, List.setIfInBounds_toArray, List.set_cons_zero, List.set_cons_succ, i64_w, i32_w]
            rfl
          refine pure_ (i := 3) (N := some 23) (v := ?_) (a' := ?_) #[true, true, false, true, false, false, false, false, false] rfl rfl (any_of HT_.out (by kernel_rfl)) (fun _ _ _ h => h) (Or.inl ⟨by rfl, ?_⟩) ?_ ?_
          rotate_left
          · intro w'
            go_simp
            with_reducible rfl
          rotate_left
          · simp only [Act.put, List.setIfInBounds_toArray, List.set_cons_zero, List.set_cons_succ, i64_w, i32_w]
            rfl
          refine pure_ (i := 4) (N := some 24) (v := ?_) (a' := ?_) #[true, true, false, true, true, false, false, false, false] rfl rfl (any_of HT_.out (by kernel_rfl)) (fun _ _ _ h => h) (Or.inl ⟨by rfl, ?_⟩) ?_ ?_
          rotate_left
          · intro w'
            go_simp
            with_reducible rfl
          rotate_left
          · simp only [Act.put, List.setIfInBounds_toArray, List.set_cons_zero, List.set_cons_succ, i64_w, i32_w]
            rfl
          refine take_ (i := 2) (N := some 22) (v := ?_) (a' := ?_) #[true, true, true, true, true, false, false, false, false] rfl rfl (take_ofW HT_.out HW_.out (by kernel_rfl)) (fun _ _ _ h => h) (Or.inl ⟨by rfl, ?_⟩) hHeld ?_ ?_
          rotate_left
          · rintro w' ⟨s0, s1⟩
            go_simp
            with_reducible rfl
          rotate_left
          · simp only [Act.put, List.setIfInBounds_toArray, List.set_cons_zero, List.set_cons_succ, i64_w, i32_w]
            rfl
          refine take_ (i := 5) (N := some 25) (v := ?_) (a' := ?_) #[true, true, true, true, true, true, false, false, false] rfl rfl (take_ofW HT_.out HW_.out (by kernel_rfl)) (fun _ _ _ h => h) (Or.inl ⟨by rfl, ?_⟩) hHeld ?_ ?_
          rotate_left
          · rintro w' ⟨s0, s1⟩
            go_simp
            with_reducible rfl
          rotate_left
          · simp only [Act.put, List.setIfInBounds_toArray, List.set_cons_zero, List.set_cons_succ, i64_w, i32_w]
            rfl
          refine pure_ (i := 6) (N := some 26) (v := ?_) (a' := ?_) #[true, true, true, true, true, true, true, false, false] rfl rfl (any_of HT_.out (by kernel_rfl)) (fun _ _ _ h => h) (Or.inl ⟨by rfl, ?_⟩) ?_ ?_
          rotate_left
          · intro w'
            go_simp
            with_reducible rfl
          rotate_left
          · simp only [Act.put, List.setIfInBounds_toArray, List.set_cons_zero, List.set_cons_succ, i64_w, i32_w]
            rfl
          refine one_ (i := 7) (N := some 4) #[true, true, true, true, true, true, true, true, false] rfl rfl (one_of HT_.out (by kernel_rfl)) (by decide) (fun K hK => ?_)
          refine box_step ?hg (N := 4) ?hd (cs := #[.int .u8 0, .int .i64 0, .int .u8 0, .int .u32 0, .bool false, .int .u8 0, .int .u8 0, .slice none 0 0, .slice none 0 0]) (t := 27) ?hr ?_; (case hd => rfl); (case hg => rfl); (case hr => first | (go_simp; done) | (go_simp; rfl))
          intro gb253 hg w12 hbox hb
          have n0_ := Aside0.mk (blk_below (g := gb249) (o := .cells #[.int .u8 0, .int .i64 0, .int .u8 0, .int .u32 0, .bool false, .int .u8 0, .int .u8 0, .slice none 0 0, .slice none 0 0] 27 (0, 0)) (by (with_reducible repeat (first | refine blk_drewN ?_ _ | refine blk_drew ?_ | refine blk_alloc ?_ _)); exact BK249.out) hb)
          have n1_ := Aside0.mk (below_step (by repeat (first | (with_reducible first | exact HB.out | apply below_alloc | apply pw_below_drewN | apply below_drew1 | refine below_set ?_ GE249.out) | exact HB.out)) hb)
          have n2_ := Aside0.mk (hbox)
          have n3_ := Aside0.mk ((by rw [hg]; exact (below_size (by repeat (first | (with_reducible first | exact HB.out | apply below_alloc | apply pw_below_drewN | apply below_drew1 | refine below_set ?_ GE249.out) | exact HB.out))) : w.heap.size ≤ gb253))
          have n4_ := Aside0.mk ((by rw [hg]; exact (below_size (by repeat (first | (with_reducible first | exact HB.out | apply below_alloc | apply pw_below_drewN | apply below_drew1 | refine below_set ?_ GE249.out) | exact HB.out))) : w.heap.size ≤ gb253))
          have n5_ := Aside0.mk ((by rw [hg]; exact Nat.ne_of_lt (blk_lt (g := gb249) (o := .cells #[.int .u8 0, .int .i64 0, .int .u8 0, .int .u32 0, .bool false, .int .u8 0, .int .u8 0, .slice none 0 0, .slice none 0 0] 27 (0, 0)) (by (with_reducible repeat (first | refine blk_drewN ?_ _ | refine blk_drew ?_ | refine blk_alloc ?_ _)); exact BK249.out)) : gb249 ≠ gb253))
          have n6_ := Aside0.mk ((by rw [hg]; exact Nat.ne_of_gt (blk_lt (g := gb249) (o := .cells #[.int .u8 0, .int .i64 0, .int .u8 0, .int .u32 0, .bool false, .int .u8 0, .int .u8 0, .slice none 0 0, .slice none 0 0] 27 (0, 0)) (by (with_reducible repeat (first | refine blk_drewN ?_ _ | refine blk_drew ?_ | refine blk_alloc ?_ _)); exact BK249.out)) : gb253 ≠ gb249))
          clear BK249
          clear HB
          have BK249 := n0_
          have HB := n1_
          have BK253 := n2_
          have GW253 := n3_
          have GE253 := n4_
          have NB249_253 := n5_
          have NB253_249 := n6_
          clear n0_ n1_ n2_ n3_ n4_ n5_ n6_
          clear hb hbox hg
          refine hK.out _ _ ⟨((HB.out.cell (World.block_lt_of_cell? w _ hw251_0)).trans hw251_0), ((HB.out.cell (World.block_lt_of_cell? w _ hw252_0)).trans hw252_0)⟩ (fun hHeld => ?_)
          clear hK K
          refine norm_ (a' := ?_) ?_ ?_
          rotate_left
          · show Act.put _ (some 4) _ = _
            simp only [Act.put, List.setIfInBounds_toArray, List.set_cons_zero, List.set_cons_succ, i64_w, i32_w]
            rfl
          refine one_ (i := 8) (N := none) #[true, true, true, true, true, true, true, true, true] rfl rfl (one_of HT_.out (by kernel_rfl)) (by decide) (fun K hK => ?_)
          have hs13 : w12.cell? ⟨gb253, 0, none⟩ = some (.int .u8 0) := (blk_cell BK253.out 0).trans rfl
          have hfs13 := blk_frozen BK253.out 0
          have hns13_0 := NB249_253.out
          have hms13_0 := NB253_249.out
          have hs14 : w12.cell? ⟨gb253, 1, none⟩ = some (.int .i64 0) := (blk_cell BK253.out 1).trans rfl
          have hfs14 := blk_frozen BK253.out 1
          have hns14_0 := NB249_253.out
          have hms14_0 := NB253_249.out
          have hs15 : w12.cell? ⟨gb253, 2, none⟩ = some (.int .u8 0) := (blk_cell BK253.out 2).trans rfl
          have hfs15 := blk_frozen BK253.out 2
          have hns15_0 := NB249_253.out
          have hms15_0 := NB253_249.out
          have hs16 : w12.cell? ⟨gb253, 3, none⟩ = some (.int .u32 0) := (blk_cell BK253.out 3).trans rfl
          have hfs16 := blk_frozen BK253.out 3
          have hns16_0 := NB249_253.out
          have hms16_0 := NB253_249.out
          have hs17 : w12.cell? ⟨gb253, 4, none⟩ = some (.bool false) := (blk_cell BK253.out 4).trans rfl
          have hfs17 := blk_frozen BK253.out 4
          have hns17_0 := NB249_253.out
          have hms17_0 := NB253_249.out
          have hs18 : w12.cell? ⟨gb253, 5, none⟩ = some (.int .u8 0) := (blk_cell BK253.out 5).trans rfl
          have hfs18 := blk_frozen BK253.out 5
          have hns18_0 := NB249_253.out
          have hms18_0 := NB253_249.out
          have hs19 : w12.cell? ⟨gb253, 6, none⟩ = some (.int .u8 0) := (blk_cell BK253.out 6).trans rfl
          have hfs19 := blk_frozen BK253.out 6
          have hns19_0 := NB249_253.out
          have hms19_0 := NB253_249.out
          have hs20 : w12.cell? ⟨gb253, 7, none⟩ = some (.slice none 0 0) := (blk_cell BK253.out 7).trans rfl
          have hfs20 := blk_frozen BK253.out 7
          have hns20_0 := NB249_253.out
          have hms20_0 := NB253_249.out
          have hs21 : w12.cell? ⟨gb253, 8, none⟩ = some (.slice none 0 0) := (blk_cell BK253.out 8).trans rfl
          have hfs21 := blk_frozen BK253.out 8
          have hns21_0 := NB249_253.out
          have hms21_0 := NB253_249.out
          refine skip_ (w1 := ?_) (by rfl) rfl ?_ ?_
          rotate_left
          · go_simp
            rfl
          refine hK.out _ _ ⟨((cell_far (p := ⟨gb253, _, none⟩) (by first | exact Nat.ne_of_lt (Nat.lt_of_lt_of_le (by have := World.block_lt_of_cell? _ _ hw251_0; first | rwa [add_block] at this | exact this) GW253.out) | (rw [add_block]; exact Nat.ne_of_lt (Nat.lt_of_lt_of_le (by have := World.block_lt_of_cell? _ _ hw251_0; first | rwa [add_block] at this | exact this) GW253.out)) | (show (Addr.add _ _).block ≠ _; rw [add_block]; exact Nat.ne_of_lt (Nat.lt_of_lt_of_le (by have := World.block_lt_of_cell? _ _ hw251_0; first | rwa [add_block] at this | exact this) GW253.out)) | (dsimp only; exact Nat.ne_of_lt (Nat.lt_of_lt_of_le (by have := World.block_lt_of_cell? _ _ hw251_0; first | rwa [add_block] at this | exact this) GW253.out))) _).trans (((cell_far (p := ⟨gb253, _, none⟩) (by first | exact Nat.ne_of_lt (Nat.lt_of_lt_of_le (by have := World.block_lt_of_cell? _ _ hw251_0; first | rwa [add_block] at this | exact this) GW253.out) | (rw [add_block]; exact Nat.ne_of_lt (Nat.lt_of_lt_of_le (by have := World.block_lt_of_cell? _ _ hw251_0; first | rwa [add_block] at this | exact this) GW253.out)) | (show (Addr.add _ _).block ≠ _; rw [add_block]; exact Nat.ne_of_lt (Nat.lt_of_lt_of_le (by have := World.block_lt_of_cell? _ _ hw251_0; first | rwa [add_block] at this | exact this) GW253.out)) | (dsimp only; exact Nat.ne_of_lt (Nat.lt_of_lt_of_le (by have := World.block_lt_of_cell? _ _ hw251_0; first | rwa [add_block] at this | exact this) GW253.out))) _).trans (((cell_far (p := ⟨gb253, _, none⟩) (by first | exact Nat.ne_of_lt (Nat.lt_of_lt_of_le (by have := World.block_lt_of_cell? _ _ hw251_0; first | rwa [add_block] at this | exact this) GW253.out) | (rw [add_block]; exact Nat.ne_of_lt (Nat.lt_of_lt_of_le (by have := World.block_lt_of_cell? _ _ hw251_0; first | rwa [add_block] at this | exact this) GW253.out)) | (show (Addr.add _ _).block ≠ _; rw [add_block]; exact Nat.ne_of_lt (Nat.lt_of_lt_of_le (by have := World.block_lt_of_cell? _ _ hw251_0; first | rwa [add_block] at this | exact this) GW253.out)) | (dsimp only; exact Nat.ne_of_lt (Nat.lt_of_lt_of_le (by have := World.block_lt_of_cell? _ _ hw251_0; first | rwa [add_block] at this | exact this) GW253.out))) _).trans (((cell_far (p := ⟨gb253, _, none⟩) (by first | exact Nat.ne_of_lt (Nat.lt_of_lt_of_le (by have := World.block_lt_of_cell? _ _ hw251_0; first | rwa [add_block] at this | exact this) GW253.out) | (rw [add_block]; exact Nat.ne_of_lt (Nat.lt_of_lt_of_le (by have := World.block_lt_of_cell? _ _ hw251_0; first | rwa [add_block] at this | exact this) GW253.out)) | (show (Addr.add _ _).block ≠ _; rw [add_block]; exact Nat.ne_of_lt (Nat.lt_of_lt_of_le (by have := World.block_lt_of_cell? _ _ hw251_0; first | rwa [add_block] at this | exact this) GW253.out)) | (dsimp only; exact Nat.ne_of_lt (Nat.lt_of_lt_of_le (by have := World.block_lt_of_cell? _ _ hw251_0; first | rwa [add_block] at this | exact this) GW253.out))) _).trans (((cell_far (p := ⟨gb253, _, none⟩) (by first | exact Nat.ne_of_lt (Nat.lt_of_lt_of_le (by have := World.block_lt_of_cell? _ _ hw251_0; first | rwa [add_block] at this | exact this) GW253.out) | (rw [add_block]; exact Nat.ne_of_lt (Nat.lt_of_lt_of_le (by have := World.block_lt_of_cell? _ _ hw251_0; first | rwa [add_block] at this | exact this) GW253.out)) | (show (Addr.add _ _).block ≠ _; rw [add_block]; exact Nat.ne_of_lt (Nat.lt_of_lt_of_le (by have := World.block_lt_of_cell? _ _ hw251_0; first | rwa [add_block] at this | exact this) GW253.out)) | (dsimp only; exact Nat.ne_of_lt (Nat.lt_of_lt_of_le (by have := World.block_lt_of_cell? _ _ hw251_0; first | rwa [add_block] at this | exact this) GW253.out))) _).trans (((cell_far (p := ⟨gb253, _, none⟩) (by first | exact Nat.ne_of_lt (Nat.lt_of_lt_of_le (by have := World.block_lt_of_cell? _ _ hw251_0; first | rwa [add_block] at this | exact this) GW253.out) | (rw [add_block]; exact Nat.ne_of_lt (Nat.lt_of_lt_of_le (by have := World.block_lt_of_cell? _ _ hw251_0; first | rwa [add_block] at this | exact this) GW253.out)) | (show (Addr.add _ _).block ≠ _; rw [add_block]; exact Nat.ne_of_lt (Nat.lt_of_lt_of_le (by have := World.block_lt_of_cell? _ _ hw251_0; first | rwa [add_block] at this | exact this) GW253.out)) | (dsimp only; exact Nat.ne_of_lt (Nat.lt_of_lt_of_le (by have := World.block_lt_of_cell? _ _ hw251_0; first | rwa [add_block] at this | exact this) GW253.out))) _).trans (((cell_far (p := ⟨gb253, _, none⟩) (by first | exact Nat.ne_of_lt (Nat.lt_of_lt_of_le (by have := World.block_lt_of_cell? _ _ hw251_0; first | rwa [add_block] at this | exact this) GW253.out) | (rw [add_block]; exact Nat.ne_of_lt (Nat.lt_of_lt_of_le (by have := World.block_lt_of_cell? _ _ hw251_0; first | rwa [add_block] at this | exact this) GW253.out)) | (show (Addr.add _ _).block ≠ _; rw [add_block]; exact Nat.ne_of_lt (Nat.lt_of_lt_of_le (by have := World.block_lt_of_cell? _ _ hw251_0; first | rwa [add_block] at this | exact this) GW253.out)) | (dsimp only; exact Nat.ne_of_lt (Nat.lt_of_lt_of_le (by have := World.block_lt_of_cell? _ _ hw251_0; first | rwa [add_block] at this | exact this) GW253.out))) _).trans (((cell_far (p := ⟨gb253, _, none⟩) (by first | exact Nat.ne_of_lt (Nat.lt_of_lt_of_le (by have := World.block_lt_of_cell? _ _ hw251_0; first | rwa [add_block] at this | exact this) GW253.out) | (rw [add_block]; exact Nat.ne_of_lt (Nat.lt_of_lt_of_le (by have := World.block_lt_of_cell? _ _ hw251_0; first | rwa [add_block] at this | exact this) GW253.out)) | (show (Addr.add _ _).block ≠ _; rw [add_block]; exact Nat.ne_of_lt (Nat.lt_of_lt_of_le (by have := World.block_lt_of_cell? _ _ hw251_0; first | rwa [add_block] at this | exact this) GW253.out)) | (dsimp only; exact Nat.ne_of_lt (Nat.lt_of_lt_of_le (by have := World.block_lt_of_cell? _ _ hw251_0; first | rwa [add_block] at this | exact this) GW253.out))) _).trans (((cell_far (p := ⟨gb253, _, none⟩) (by first | exact Nat.ne_of_lt (Nat.lt_of_lt_of_le (by have := World.block_lt_of_cell? _ _ hw251_0; first | rwa [add_block] at this | exact this) GW253.out) | (rw [add_block]; exact Nat.ne_of_lt (Nat.lt_of_lt_of_le (by have := World.block_lt_of_cell? _ _ hw251_0; first | rwa [add_block] at this | exact this) GW253.out)) | (show (Addr.add _ _).block ≠ _; rw [add_block]; exact Nat.ne_of_lt (Nat.lt_of_lt_of_le (by have := World.block_lt_of_cell? _ _ hw251_0; first | rwa [add_block] at this | exact this) GW253.out)) | (dsimp only; exact Nat.ne_of_lt (Nat.lt_of_lt_of_le (by have := World.block_lt_of_cell? _ _ hw251_0; first | rwa [add_block] at this | exact this) GW253.out))) _).trans (hHeld.1)))))))))))))))))), ((cell_far (p := ⟨gb253, _, none⟩) (by first | exact Nat.ne_of_lt (Nat.lt_of_lt_of_le (by have := World.block_lt_of_cell? _ _ hw252_0; first | rwa [add_block] at this | exact this) GW253.out) | (rw [add_block]; exact Nat.ne_of_lt (Nat.lt_of_lt_of_le (by have := World.block_lt_of_cell? _ _ hw252_0; first | rwa [add_block] at this | exact this) GW253.out)) | (show (Addr.add _ _).block ≠ _; rw [add_block]; exact Nat.ne_of_lt (Nat.lt_of_lt_of_le (by have := World.block_lt_of_cell? _ _ hw252_0; first | rwa [add_block] at this | exact this) GW253.out)) | (dsimp only; exact Nat.ne_of_lt (Nat.lt_of_lt_of_le (by have := World.block_lt_of_cell? _ _ hw252_0; first | rwa [add_block] at this | exact this) GW253.out))) _).trans (((cell_far (p := ⟨gb253, _, none⟩) (by first | exact Nat.ne_of_lt (Nat.lt_of_lt_of_le (by have := World.block_lt_of_cell? _ _ hw252_0; first | rwa [add_block] at this | exact this) GW253.out) | (rw [add_block]; exact Nat.ne_of_lt (Nat.lt_of_lt_of_le (by have := World.block_lt_of_cell? _ _ hw252_0; first | rwa [add_block] at this | exact this) GW253.out)) | (show (Addr.add _ _).block ≠ _; rw [add_block]; exact Nat.ne_of_lt (Nat.lt_of_lt_of_le (by have := World.block_lt_of_cell? _ _ hw252_0; first | rwa [add_block] at this | exact this) GW253.out)) | (dsimp only; exact Nat.ne_of_lt (Nat.lt_of_lt_of_le (by have := World.block_lt_of_cell? _ _ hw252_0; first | rwa [add_block] at this | exact this) GW253.out))) _).trans (((cell_far (p := ⟨gb253, _, none⟩) (by first | exact Nat.ne_of_lt (Nat.lt_of_lt_of_le (by have := World.block_lt_of_cell? _ _ hw252_0; first | rwa [add_block] at this | exact this) GW253.out) | (rw [add_block]; exact Nat.ne_of_lt (Nat.lt_of_lt_of_le (by have := World.block_lt_of_cell? _ _ hw252_0; first | rwa [add_block] at this | exact this) GW253.out)) | (show (Addr.add _ _).block ≠ _; rw [add_block]; exact Nat.ne_of_lt (Nat.lt_of_lt_of_le (by have := World.block_lt_of_cell? _ _ hw252_0; first | rwa [add_block] at this | exact this) GW253.out)) | (dsimp only; exact Nat.ne_of_lt (Nat.lt_of_lt_of_le (by have := World.block_lt_of_cell? _ _ hw252_0; first | rwa [add_block] at this | exact this) GW253.out))) _).trans (((cell_far (p := ⟨gb253, _, none⟩) (by first | exact Nat.ne_of_lt (Nat.lt_of_lt_of_le (by have := World.block_lt_of_cell? _ _ hw252_0; first | rwa [add_block] at this | exact this) GW253.out) | (rw [add_block]; exact Nat.ne_of_lt (Nat.lt_of_lt_of_le (by have := World.block_lt_of_cell? _ _ hw252_0; first | rwa [add_block] at this | exact this) GW253.out)) | (show (Addr.add _ _).block ≠ _; rw [add_block]; exact Nat.ne_of_lt (Nat.lt_of_lt_of_le (by have := World.block_lt_of_cell? _ _ hw252_0; first | rwa [add_block] at this | exact this) GW253.out)) | (dsimp only; exact Nat.ne_of_lt (Nat.lt_of_lt_of_le (by have := World.block_lt_of_cell? _ _ hw252_0; first | rwa [add_block] at this | exact this) GW253.out))) _).trans (((cell_far (p := ⟨gb253, _, none⟩) (by first | exact Nat.ne_of_lt (Nat.lt_of_lt_of_le (by have := World.block_lt_of_cell? _ _ hw252_0; first | rwa [add_block] at this | exact this) GW253.out) | (rw [add_block]; exact Nat.ne_of_lt (Nat.lt_of_lt_of_le (by have := World.block_lt_of_cell? _ _ hw252_0; first | rwa [add_block] at this | exact this) GW253.out)) | (show (Addr.add _ _).block ≠ _; rw [add_block]; exact Nat.ne_of_lt (Nat.lt_of_lt_of_le (by have := World.block_lt_of_cell? _ _ hw252_0; first | rwa [add_block] at this | exact this) GW253.out)) | (dsimp only; exact Nat.ne_of_lt (Nat.lt_of_lt_of_le (by have := World.block_lt_of_cell? _ _ hw252_0; first | rwa [add_block] at this | exact this) GW253.out))) _).trans (((cell_far (p := ⟨gb253, _, none⟩) (by first | exact Nat.ne_of_lt (Nat.lt_of_lt_of_le (by have := World.block_lt_of_cell? _ _ hw252_0; first | rwa [add_block] at this | exact this) GW253.out) | (rw [add_block]; exact Nat.ne_of_lt (Nat.lt_of_lt_of_le (by have := World.block_lt_of_cell? _ _ hw252_0; first | rwa [add_block] at this | exact this) GW253.out)) | (show (Addr.add _ _).block ≠ _; rw [add_block]; exact Nat.ne_of_lt (Nat.lt_of_lt_of_le (by have := World.block_lt_of_cell? _ _ hw252_0; first | rwa [add_block] at this | exact this) GW253.out)) | (dsimp only; exact Nat.ne_of_lt (Nat.lt_of_lt_of_le (by have := World.block_lt_of_cell? _ _ hw252_0; first | rwa [add_block] at this | exact this) GW253.out))) _).trans (((cell_far (p := ⟨gb253, _, none⟩) (by first | exact Nat.ne_of_lt (Nat.lt_of_lt_of_le (by have := World.block_lt_of_cell? _ _ hw252_0; first | rwa [add_block] at this | exact this) GW253.out) | (rw [add_block]; exact Nat.ne_of_lt (Nat.lt_of_lt_of_le (by have := World.block_lt_of_cell? _ _ hw252_0; first | rwa [add_block] at this | exact this) GW253.out)) | (show (Addr.add _ _).block ≠ _; rw [add_block]; exact Nat.ne_of_lt (Nat.lt_of_lt_of_le (by have := World.block_lt_of_cell? _ _ hw252_0; first | rwa [add_block] at this | exact this) GW253.out)) | (dsimp only; exact Nat.ne_of_lt (Nat.lt_of_lt_of_le (by have := World.block_lt_of_cell? _ _ hw252_0; first | rwa [add_block] at this | exact this) GW253.out))) _).trans (((cell_far (p := ⟨gb253, _, none⟩) (by first | exact Nat.ne_of_lt (Nat.lt_of_lt_of_le (by have := World.block_lt_of_cell? _ _ hw252_0; first | rwa [add_block] at this | exact this) GW253.out) | (rw [add_block]; exact Nat.ne_of_lt (Nat.lt_of_lt_of_le (by have := World.block_lt_of_cell? _ _ hw252_0; first | rwa [add_block] at this | exact this) GW253.out)) | (show (Addr.add _ _).block ≠ _; rw [add_block]; exact Nat.ne_of_lt (Nat.lt_of_lt_of_le (by have := World.block_lt_of_cell? _ _ hw252_0; first | rwa [add_block] at this | exact this) GW253.out)) | (dsimp only; exact Nat.ne_of_lt (Nat.lt_of_lt_of_le (by have := World.block_lt_of_cell? _ _ hw252_0; first | rwa [add_block] at this | exact this) GW253.out))) _).trans (((cell_far (p := ⟨gb253, _, none⟩) (by first | exact Nat.ne_of_lt (Nat.lt_of_lt_of_le (by have := World.block_lt_of_cell? _ _ hw252_0; first | rwa [add_block] at this | exact this) GW253.out) | (rw [add_block]; exact Nat.ne_of_lt (Nat.lt_of_lt_of_le (by have := World.block_lt_of_cell? _ _ hw252_0; first | rwa [add_block] at this | exact this) GW253.out)) | (show (Addr.add _ _).block ≠ _; rw [add_block]; exact Nat.ne_of_lt (Nat.lt_of_lt_of_le (by have := World.block_lt_of_cell? _ _ hw252_0; first | rwa [add_block] at this | exact this) GW253.out)) | (dsimp only; exact Nat.ne_of_lt (Nat.lt_of_lt_of_le (by have := World.block_lt_of_cell? _ _ hw252_0; first | rwa [add_block] at this | exact this) GW253.out))) _).trans (hHeld.2))))))))))))))))))⟩ (fun hHeld => ?_)
          clear hK K
          refine done_ (done_of HT_.out (by kernel_rfl)) ?_
          have p254 : 0 ≤ (0 : Int) := (by omega)
          have q254 : 0 < (l0.length : Int) := of_decide_eq_true (by first | (with_reducible assumption) | assumption)
          obtain ⟨ad254, e254, hx254_0⟩ := Kd.at_int HR0.out 0 p254 q254
          obtain rfl : ad251 = ad254 := (by injection e254)
          have qi254 : (0 < l0.length) = True := eq_true (by omega)
          (try rw [show ((0 : Int)).toNat = 0 from rfl] at hx254_0)
          (try rw [Addr.add_zero'] at hx254_0)
          have hn254_0 : ad251.block ≠ gb253 := Nat.ne_of_lt (Nat.lt_of_lt_of_le (by have := World.block_lt_of_cell? _ _ hx254_0; first | rwa [add_block] at this | exact this) GW253.out)
          have hn254_1 : ad251.block ≠ gb253 := Nat.ne_of_lt (Nat.lt_of_lt_of_le (by have := World.block_lt_of_cell? _ _ hx254_0; first | rwa [add_block] at this | exact this) GW253.out)
          have hn254_2 : ad251.block ≠ gb253 := Nat.ne_of_lt (Nat.lt_of_lt_of_le (by have := World.block_lt_of_cell? _ _ hx254_0; first | rwa [add_block] at this | exact this) GW253.out)
          have hn254_3 : ad251.block ≠ gb253 := Nat.ne_of_lt (Nat.lt_of_lt_of_le (by have := World.block_lt_of_cell? _ _ hx254_0; first | rwa [add_block] at this | exact this) GW253.out)
          have hn254_4 : ad251.block ≠ gb253 := Nat.ne_of_lt (Nat.lt_of_lt_of_le (by have := World.block_lt_of_cell? _ _ hx254_0; first | rwa [add_block] at this | exact this) GW253.out)
          have hn254_5 : ad251.block ≠ gb253 := Nat.ne_of_lt (Nat.lt_of_lt_of_le (by have := World.block_lt_of_cell? _ _ hx254_0; first | rwa [add_block] at this | exact this) GW253.out)
          have hn254_6 : ad251.block ≠ gb253 := Nat.ne_of_lt (Nat.lt_of_lt_of_le (by have := World.block_lt_of_cell? _ _ hx254_0; first | rwa [add_block] at this | exact this) GW253.out)
          have hn254_7 : ad251.block ≠ gb253 := Nat.ne_of_lt (Nat.lt_of_lt_of_le (by have := World.block_lt_of_cell? _ _ hx254_0; first | rwa [add_block] at this | exact this) GW253.out)
          have hn254_8 : ad251.block ≠ gb253 := Nat.ne_of_lt (Nat.lt_of_lt_of_le (by have := World.block_lt_of_cell? _ _ hx254_0; first | rwa [add_block] at this | exact this) GW253.out)
          replace hx254_0 := (HB.out.cell (World.block_lt_of_cell? w _ hx254_0)).trans hx254_0
          replace hx254_0 := (cell_far (p := ⟨gb253, 0, none⟩) (by first | (rw [add_block]; exact hn254_0) | (show (Addr.add _ _).block ≠ _; rw [add_block]; exact hn254_0) | exact hn254_0) (.int .u8 (rd l0 0))).trans hx254_0
          replace hx254_0 := (cell_far (p := ⟨gb253, 1, none⟩) (by first | (rw [add_block]; exact hn254_1) | (show (Addr.add _ _).block ≠ _; rw [add_block]; exact hn254_1) | exact hn254_1) (.int .i64 0)).trans hx254_0
          replace hx254_0 := (cell_far (p := ⟨gb253, 2, none⟩) (by first | (rw [add_block]; exact hn254_2) | (show (Addr.add _ _).block ≠ _; rw [add_block]; exact hn254_2) | exact hn254_2) (.int .u8 (rd l0 1))).trans hx254_0
          replace hx254_0 := (cell_far (p := ⟨gb253, 3, none⟩) (by first | (rw [add_block]; exact hn254_3) | (show (Addr.add _ _).block ≠ _; rw [add_block]; exact hn254_3) | exact hn254_3) (.int .u32 0)).trans hx254_0
          replace hx254_0 := (cell_far (p := ⟨gb253, 4, none⟩) (by first | (rw [add_block]; exact hn254_4) | (show (Addr.add _ _).block ≠ _; rw [add_block]; exact hn254_4) | exact hn254_4) (.bool false)).trans hx254_0
          replace hx254_0 := (cell_far (p := ⟨gb253, 5, none⟩) (by first | (rw [add_block]; exact hn254_5) | (show (Addr.add _ _).block ≠ _; rw [add_block]; exact hn254_5) | exact hn254_5) (.int .u8 0)).trans hx254_0
          replace hx254_0 := (cell_far (p := ⟨gb253, 6, none⟩) (by first | (rw [add_block]; exact hn254_6) | (show (Addr.add _ _).block ≠ _; rw [add_block]; exact hn254_6) | exact hn254_6) (.int .u8 0)).trans hx254_0
          replace hx254_0 := (cell_far (p := ⟨gb253, 7, none⟩) (by first | (rw [add_block]; exact hn254_7) | (show (Addr.add _ _).block ≠ _; rw [add_block]; exact hn254_7) | exact hn254_7) (.slice none 0 0)).trans hx254_0
          replace hx254_0 := (cell_far (p := ⟨gb253, 8, none⟩) (by first | (rw [add_block]; exact hn254_8) | (show (Addr.add _ _).block ≠ _; rw [add_block]; exact hn254_8) | exact hn254_8) (.slice none 0 0)).trans hx254_0
          clear hn254_0
          clear hn254_1
          clear hn254_2
          clear hn254_3
          clear hn254_4
          clear hn254_5
          clear hn254_6
          clear hn254_7
          clear hn254_8
          replace p254 := eq_true p254
          replace q254 := eq_true q254
          go_upto_block 0 with (fail)
          go_cut [5] (fun v5 wc => ∃ (kq : Nat) (x5_8 : Int) (x250000_8 : Int) (x250001_8 : Int) (x250002_8 : Int) (x250003_8 : Int) (x250004_8 : Bool) (x250005_8 : Int) (x250006_8 : Int) (x254001_8 : Int) (x254003_8 : Int) (x254004_8 : Bool) (x254005_8 : Int) (x254006_8 : Int) (x254007_8 : List Int) (x254008_8 : List (S44)) (u254007 : Value) (u254008 : Value), v5 = .int .i64 x5_8 ∧ Aside0 (stolonref05_Decode.j3 kq l0 x5_8 (rd l0 0) x254001_8 (rd l0 1) x254003_8 x254004_8 x254005_8 x254006_8 x254007_8 x254008_8 = some (r1, r2, r3, r4, r5, r6, r7, r8, r9, r10)) ∧ Aside0 (kq ≤ k) ∧ Aside0 (Kd.R (Kd.int .u32) 23 wc w.heap.size (fun _ => True) u254007 x254007_8) ∧ Aside0 (Kd.S k44 44 wc w.heap.size (fun k_ => some k_ ≠ (u254007 : Value).ownBlock) u254008 x254008_8) ∧ Aside0 (wc.heap[gb249]? = some (.cells #[.int .u8 x250000_8, .int .i64 x250001_8, .int .u8 x250002_8, .int .u32 x250003_8, .bool x250004_8, .int .u8 x250005_8, .int .u8 x250006_8, (.slice none 0 0), (.slice none 0 0)] 27 (0, 0))) ∧ Aside0 (wc.heap[gb253]? = some (.cells #[.int .u8 (rd l0 0), .int .i64 x254001_8, .int .u8 (rd l0 1), .int .u32 x254003_8, .bool x254004_8, .int .u8 x254005_8, .int .u8 x254006_8, u254007, u254008] 27 (0, 0))) ∧ Aside0 (Below w.heap.size w wc))
          case first =>
            have H := HC9.out
            clear HC9
            have HC22 := Aside0.mk H
            clear H
            go_upto_if 31 with (fail)
            go_cut [31] (fun v31 wc => ∃ (kq : Nat) (x31_21 : Bool), v31 = .bool x31_21 ∧ Aside0 (stolonref05_Decode.j0 kq l0 8 (rd l0 0) x31_21 (rd l0 0) 0 (rd l0 1) 0 false 0 0 = some (r1, r2, r3, r4, r5, r6, r7, r8, r9, r10)) ∧ Aside0 (kq ≤ k) ∧ Aside0 (wc.heap[gb249]? = some (.cells #[.int .u8 0, .int .i64 0, .int .u8 0, .int .u32 0, .bool false, .int .u8 0, .int .u8 0, (.slice none 0 0), (.slice none 0 0)] 27 (0, 0))) ∧ Aside0 (wc.heap[gb253]? = some (.cells #[.int .u8 (rd l0 0), .int .i64 0, .int .u8 (rd l0 1), .int .u32 0, .bool false, .int .u8 0, .int .u8 0, (.slice none 0 0), (.slice none 0 0)] 27 (0, 0))) ∧ Aside0 (Below w.heap.size w wc))
            case first =>
              have H := HC22.out
              clear HC22
              by_cases c23 : (rd l0 0) = 18
              · rw [if_pos c23] at H
                have c23b0 : ((rd l0 0) == 18) = true := beq_iff_eq.mpr c23
                have c23b1 : ((rd l0 0) != 18) = false := bne_eq_false_iff_eq.mpr c23
                clear c23
                (first | rw [c23b0] | (simp only [i64_w, i32_w]; rw [c23b0]) | skip)
                have H' := Aside0.mk H
                clear H
                go_wp2
                go_meet
                case rel => exact ⟨_, (((rd l0 0) == 18)), (by first | rfl | (simp; done) | (simp [*]; done)), H', ⟨by first | omega | exact Nat.le_refl _⟩, ⟨by (with_reducible repeat (first | refine blk_drewN ?_ _ | refine blk_drew ?_ | refine blk_alloc ?_ _)); refine blk_far ?_ NB249_253.out _; (with_reducible repeat (first | refine blk_drewN ?_ _ | refine blk_drew ?_ | refine blk_alloc ?_ _)); refine blk_far ?_ NB249_253.out _; (with_reducible repeat (first | refine blk_drewN ?_ _ | refine blk_drew ?_ | refine blk_alloc ?_ _)); refine blk_far ?_ NB249_253.out _; (with_reducible repeat (first | refine blk_drewN ?_ _ | refine blk_drew ?_ | refine blk_alloc ?_ _)); refine blk_far ?_ NB249_253.out _; (with_reducible repeat (first | refine blk_drewN ?_ _ | refine blk_drew ?_ | refine blk_alloc ?_ _)); refine blk_far ?_ NB249_253.out _; (with_reducible repeat (first | refine blk_drewN ?_ _ | refine blk_drew ?_ | refine blk_alloc ?_ _)); refine blk_far ?_ NB249_253.out _; (with_reducible repeat (first | refine blk_drewN ?_ _ | refine blk_drew ?_ | refine blk_alloc ?_ _)); refine blk_far ?_ NB249_253.out _; (with_reducible repeat (first | refine blk_drewN ?_ _ | refine blk_drew ?_ | refine blk_alloc ?_ _)); refine blk_far ?_ NB249_253.out _; (with_reducible repeat (first | refine blk_drewN ?_ _ | refine blk_drew ?_ | refine blk_alloc ?_ _)); refine blk_far ?_ NB249_253.out _; (with_reducible repeat (first | refine blk_drewN ?_ _ | refine blk_drew ?_ | refine blk_alloc ?_ _)); exact BK249.out⟩, ⟨by (with_reducible repeat (first | refine blk_drewN ?_ _ | refine blk_drew ?_ | refine blk_alloc ?_ _)); refine blk_put (cs := #[.int .u8 (rd l0 0), .int .i64 0, .int .u8 (rd l0 1), .int .u32 0, .bool false, .int .u8 0, .int .u8 0, .slice none 0 0, .slice none 0 0]) ?_ 8 _ rfl; (with_reducible repeat (first | refine blk_drewN ?_ _ | refine blk_drew ?_ | refine blk_alloc ?_ _)); refine blk_put (cs := #[.int .u8 (rd l0 0), .int .i64 0, .int .u8 (rd l0 1), .int .u32 0, .bool false, .int .u8 0, .int .u8 0, .slice none 0 0, .slice none 0 0]) ?_ 7 _ rfl; (with_reducible repeat (first | refine blk_drewN ?_ _ | refine blk_drew ?_ | refine blk_alloc ?_ _)); refine blk_put (cs := #[.int .u8 (rd l0 0), .int .i64 0, .int .u8 (rd l0 1), .int .u32 0, .bool false, .int .u8 0, .int .u8 0, .slice none 0 0, .slice none 0 0]) ?_ 6 _ rfl; (with_reducible repeat (first | refine blk_drewN ?_ _ | refine blk_drew ?_ | refine blk_alloc ?_ _)); refine blk_put (cs := #[.int .u8 (rd l0 0), .int .i64 0, .int .u8 (rd l0 1), .int .u32 0, .bool false, .int .u8 0, .int .u8 0, .slice none 0 0, .slice none 0 0]) ?_ 5 _ rfl; (with_reducible repeat (first | refine blk_drewN ?_ _ | refine blk_drew ?_ | refine blk_alloc ?_ _)); refine blk_put (cs := #[.int .u8 (rd l0 0), .int .i64 0, .int .u8 (rd l0 1), .int .u32 0, .bool false, .int .u8 0, .int .u8 0, .slice none 0 0, .slice none 0 0]) ?_ 4 _ rfl; (with_reducible repeat (first | refine blk_drewN ?_ _ | refine blk_drew ?_ | refine blk_alloc ?_ _)); refine blk_put (cs := #[.int .u8 (rd l0 0), .int .i64 0, .int .u8 (rd l0 1), .int .u32 0, .bool false, .int .u8 0, .int .u8 0, .slice none 0 0, .slice none 0 0]) ?_ 3 _ rfl; (with_reducible repeat (first | refine blk_drewN ?_ _ | refine blk_drew ?_ | refine blk_alloc ?_ _)); refine blk_put (cs := #[.int .u8 (rd l0 0), .int .i64 0, .int .u8 0, .int .u32 0, .bool false, .int .u8 0, .int .u8 0, .slice none 0 0, .slice none 0 0]) ?_ 2 _ rfl; (with_reducible repeat (first | refine blk_drewN ?_ _ | refine blk_drew ?_ | refine blk_alloc ?_ _)); refine blk_put (cs := #[.int .u8 (rd l0 0), .int .i64 0, .int .u8 0, .int .u32 0, .bool false, .int .u8 0, .int .u8 0, .slice none 0 0, .slice none 0 0]) ?_ 1 _ rfl; (with_reducible repeat (first | refine blk_drewN ?_ _ | refine blk_drew ?_ | refine blk_alloc ?_ _)); refine blk_put (cs := #[.int .u8 0, .int .i64 0, .int .u8 0, .int .u32 0, .bool false, .int .u8 0, .int .u8 0, .slice none 0 0, .slice none 0 0]) ?_ 0 _ rfl; (with_reducible repeat (first | refine blk_drewN ?_ _ | refine blk_drew ?_ | refine blk_alloc ?_ _)); exact BK253.out⟩, ⟨by repeat (first | (with_reducible first | exact HB.out | apply below_alloc | apply pw_below_drewN | apply below_drew1 | refine below_set ?_ GE249.out | refine below_set ?_ GE253.out) | exact HB.out)⟩⟩
              · rw [if_neg c23] at H
                have c23b0 : ((rd l0 0) == 18) = false := beq_eq_false_iff_ne.mpr c23
                have c23b1 : ((rd l0 0) != 18) = true := bne_iff_ne.mpr c23
                (first | rw [c23b0] | (simp only [i64_w, i32_w]; rw [c23b0]) | skip)
                by_cases c24 : (rd l0 0) = 22
                · rw [if_pos c24] at H
                  have c24b0 : ((rd l0 0) == 22) = true := beq_iff_eq.mpr c24
                  have c24b1 : ((rd l0 0) != 22) = false := bne_eq_false_iff_eq.mpr c24
                  clear c24
                  have H' := Aside0.mk H
                  clear H
                  go_wp2
                  go_meet
                  case rel => exact ⟨_, (((rd l0 0) == 22)), (by first | rfl | (simp; done) | (simp [*]; done)), H', ⟨by first | omega | exact Nat.le_refl _⟩, ⟨by (with_reducible repeat (first | refine blk_drewN ?_ _ | refine blk_drew ?_ | refine blk_alloc ?_ _)); refine blk_far ?_ NB249_253.out _; (with_reducible repeat (first | refine blk_drewN ?_ _ | refine blk_drew ?_ | refine blk_alloc ?_ _)); refine blk_far ?_ NB249_253.out _; (with_reducible repeat (first | refine blk_drewN ?_ _ | refine blk_drew ?_ | refine blk_alloc ?_ _)); refine blk_far ?_ NB249_253.out _; (with_reducible repeat (first | refine blk_drewN ?_ _ | refine blk_drew ?_ | refine blk_alloc ?_ _)); refine blk_far ?_ NB249_253.out _; (with_reducible repeat (first | refine blk_drewN ?_ _ | refine blk_drew ?_ | refine blk_alloc ?_ _)); refine blk_far ?_ NB249_253.out _; (with_reducible repeat (first | refine blk_drewN ?_ _ | refine blk_drew ?_ | refine blk_alloc ?_ _)); refine blk_far ?_ NB249_253.out _; (with_reducible repeat (first | refine blk_drewN ?_ _ | refine blk_drew ?_ | refine blk_alloc ?_ _)); refine blk_far ?_ NB249_253.out _; (with_reducible repeat (first | refine blk_drewN ?_ _ | refine blk_drew ?_ | refine blk_alloc ?_ _)); refine blk_far ?_ NB249_253.out _; (with_reducible repeat (first | refine blk_drewN ?_ _ | refine blk_drew ?_ | refine blk_alloc ?_ _)); refine blk_far ?_ NB249_253.out _; (with_reducible repeat (first | refine blk_drewN ?_ _ | refine blk_drew ?_ | refine blk_alloc ?_ _)); exact BK249.out⟩, ⟨by (with_reducible repeat (first | refine blk_drewN ?_ _ | refine blk_drew ?_ | refine blk_alloc ?_ _)); refine blk_put (cs := #[.int .u8 (rd l0 0), .int .i64 0, .int .u8 (rd l0 1), .int .u32 0, .bool false, .int .u8 0, .int .u8 0, .slice none 0 0, .slice none 0 0]) ?_ 8 _ rfl; (with_reducible repeat (first | refine blk_drewN ?_ _ | refine blk_drew ?_ | refine blk_alloc ?_ _)); refine blk_put (cs := #[.int .u8 (rd l0 0), .int .i64 0, .int .u8 (rd l0 1), .int .u32 0, .bool false, .int .u8 0, .int .u8 0, .slice none 0 0, .slice none 0 0]) ?_ 7 _ rfl; (with_reducible repeat (first | refine blk_drewN ?_ _ | refine blk_drew ?_ | refine blk_alloc ?_ _)); refine blk_put (cs := #[.int .u8 (rd l0 0), .int .i64 0, .int .u8 (rd l0 1), .int .u32 0, .bool false, .int .u8 0, .int .u8 0, .slice none 0 0, .slice none 0 0]) ?_ 6 _ rfl; (with_reducible repeat (first | refine blk_drewN ?_ _ | refine blk_drew ?_ | refine blk_alloc ?_ _)); refine blk_put (cs := #[.int .u8 (rd l0 0), .int .i64 0, .int .u8 (rd l0 1), .int .u32 0, .bool false, .int .u8 0, .int .u8 0, .slice none 0 0, .slice none 0 0]) ?_ 5 _ rfl; (with_reducible repeat (first | refine blk_drewN ?_ _ | refine blk_drew ?_ | refine blk_alloc ?_ _)); refine blk_put (cs := #[.int .u8 (rd l0 0), .int .i64 0, .int .u8 (rd l0 1), .int .u32 0, .bool false, .int .u8 0, .int .u8 0, .slice none 0 0, .slice none 0 0]) ?_ 4 _ rfl; (with_reducible repeat (first | refine blk_drewN ?_ _ | refine blk_drew ?_ | refine blk_alloc ?_ _)); refine blk_put (cs := #[.int .u8 (rd l0 0), .int .i64 0, .int .u8 (rd l0 1), .int .u32 0, .bool false, .int .u8 0, .int .u8 0, .slice none 0 0, .slice none 0 0]) ?_ 3 _ rfl; (with_reducible repeat (first | refine blk_drewN ?_ _ | refine blk_drew ?_ | refine blk_alloc ?_ _)); refine blk_put (cs := #[.int .u8 (rd l0 0), .int .i64 0, .int .u8 0, .int .u32 0, .bool false, .int .u8 0, .int .u8 0, .slice none 0 0, .slice none 0 0]) ?_ 2 _ rfl; (with_reducible repeat (first | refine blk_drewN ?_ _ | refine blk_drew ?_ | refine blk_alloc ?_ _)); refine blk_put (cs := #[.int .u8 (rd l0 0), .int .i64 0, .int .u8 0, .int .u32 0, .bool false, .int .u8 0, .int .u8 0, .slice none 0 0, .slice none 0 0]) ?_ 1 _ rfl; (with_reducible repeat (first | refine blk_drewN ?_ _ | refine blk_drew ?_ | refine blk_alloc ?_ _)); refine blk_put (cs := #[.int .u8 0, .int .i64 0, .int .u8 0, .int .u32 0, .bool false, .int .u8 0, .int .u8 0, .slice none 0 0, .slice none 0 0]) ?_ 0 _ rfl; (with_reducible repeat (first | refine blk_drewN ?_ _ | refine blk_drew ?_ | refine blk_alloc ?_ _)); exact BK253.out⟩, ⟨by repeat (first | (with_reducible first | exact HB.out | apply below_alloc | apply pw_below_drewN | apply below_drew1 | refine below_set ?_ GE249.out | refine below_set ?_ GE253.out) | exact HB.out)⟩⟩
                · rw [if_neg c24] at H
                  have c24b0 : ((rd l0 0) == 22) = false := beq_eq_false_iff_ne.mpr c24
                  have c24b1 : ((rd l0 0) != 22) = true := bne_iff_ne.mpr c24
                  have H' := Aside0.mk H
                  clear H
                  go_wp2
                  go_meet
                  case rel => exact ⟨_, (((rd l0 0) == 23)), (by first | rfl | (simp; done) | (simp [*]; done)), H', ⟨by first | omega | exact Nat.le_refl _⟩, ⟨by (with_reducible repeat (first | refine blk_drewN ?_ _ | refine blk_drew ?_ | refine blk_alloc ?_ _)); refine blk_far ?_ NB249_253.out _; (with_reducible repeat (first | refine blk_drewN ?_ _ | refine blk_drew ?_ | refine blk_alloc ?_ _)); refine blk_far ?_ NB249_253.out _; (with_reducible repeat (first | refine blk_drewN ?_ _ | refine blk_drew ?_ | refine blk_alloc ?_ _)); refine blk_far ?_ NB249_253.out _; (with_reducible repeat (first | refine blk_drewN ?_ _ | refine blk_drew ?_ | refine blk_alloc ?_ _)); refine blk_far ?_ NB249_253.out _; (with_reducible repeat (first | refine blk_drewN ?_ _ | refine blk_drew ?_ | refine blk_alloc ?_ _)); refine blk_far ?_ NB249_253.out _; (with_reducible repeat (first | refine blk_drewN ?_ _ | refine blk_drew ?_ | refine blk_alloc ?_ _)); refine blk_far ?_ NB249_253.out _; (with_reducible repeat (first | refine blk_drewN ?_ _ | refine blk_drew ?_ | refine blk_alloc ?_ _)); refine blk_far ?_ NB249_253.out _; (with_reducible repeat (first | refine blk_drewN ?_ _ | refine blk_drew ?_ | refine blk_alloc ?_ _)); refine blk_far ?_ NB249_253.out _; (with_reducible repeat (first | refine blk_drewN ?_ _ | refine blk_drew ?_ | refine blk_alloc ?_ _)); refine blk_far ?_ NB249_253.out _; (with_reducible repeat (first | refine blk_drewN ?_ _ | refine blk_drew ?_ | refine blk_alloc ?_ _)); exact BK249.out⟩, ⟨by (with_reducible repeat (first | refine blk_drewN ?_ _ | refine blk_drew ?_ | refine blk_alloc ?_ _)); refine blk_put (cs := #[.int .u8 (rd l0 0), .int .i64 0, .int .u8 (rd l0 1), .int .u32 0, .bool false, .int .u8 0, .int .u8 0, .slice none 0 0, .slice none 0 0]) ?_ 8 _ rfl; (with_reducible repeat (first | refine blk_drewN ?_ _ | refine blk_drew ?_ | refine blk_alloc ?_ _)); refine blk_put (cs := #[.int .u8 (rd l0 0), .int .i64 0, .int .u8 (rd l0 1), .int .u32 0, .bool false, .int .u8 0, .int .u8 0, .slice none 0 0, .slice none 0 0]) ?_ 7 _ rfl; (with_reducible repeat (first | refine blk_drewN ?_ _ | refine blk_drew ?_ | refine blk_alloc ?_ _)); refine blk_put (cs := #[.int .u8 (rd l0 0), .int .i64 0, .int .u8 (rd l0 1), .int .u32 0, .bool false, .int .u8 0, .int .u8 0, .slice none 0 0, .slice none 0 0]) ?_ 6 _ rfl; (with_reducible repeat (first | refine blk_drewN ?_ _ | refine blk_drew ?_ | refine blk_alloc ?_ _)); refine blk_put (cs := #[.int .u8 (rd l0 0), .int .i64 0, .int .u8 (rd l0 1), .int .u32 0, .bool false, .int .u8 0, .int .u8 0, .slice none 0 0, .slice none 0 0]) ?_ 5 _ rfl; (with_reducible repeat (first | refine blk_drewN ?_ _ | refine blk_drew ?_ | refine blk_alloc ?_ _)); refine blk_put (cs := #[.int .u8 (rd l0 0), .int .i64 0, .int .u8 (rd l0 1), .int .u32 0, .bool false, .int .u8 0, .int .u8 0, .slice none 0 0, .slice none 0 0]) ?_ 4 _ rfl; (with_reducible repeat (first | refine blk_drewN ?_ _ | refine blk_drew ?_ | refine blk_alloc ?_ _)); refine blk_put (cs := #[.int .u8 (rd l0 0), .int .i64 0, .int .u8 (rd l0 1), .int .u32 0, .bool false, .int .u8 0, .int .u8 0, .slice none 0 0, .slice none 0 0]) ?_ 3 _ rfl; (with_reducible repeat (first | refine blk_drewN ?_ _ | refine blk_drew ?_ | refine blk_alloc ?_ _)); refine blk_put (cs := #[.int .u8 (rd l0 0), .int .i64 0, .int .u8 0, .int .u32 0, .bool false, .int .u8 0, .int .u8 0, .slice none 0 0, .slice none 0 0]) ?_ 2 _ rfl; (with_reducible repeat (first | refine blk_drewN ?_ _ | refine blk_drew ?_ | refine blk_alloc ?_ _)); refine blk_put (cs := #[.int .u8 (rd l0 0), .int .i64 0, .int .u8 0, .int .u32 0, .bool false, .int .u8 0, .int .u8 0, .slice none 0 0, .slice none 0 0]) ?_ 1 _ rfl; (with_reducible repeat (first | refine blk_drewN ?_ _ | refine blk_drew ?_ | refine blk_alloc ?_ _)); refine blk_put (cs := #[.int .u8 0, .int .i64 0, .int .u8 0, .int .u32 0, .bool false, .int .u8 0, .int .u8 0, .slice none 0 0, .slice none 0 0]) ?_ 0 _ rfl; (with_reducible repeat (first | refine blk_drewN ?_ _ | refine blk_drew ?_ | refine blk_alloc ?_ _)); exact BK253.out⟩, ⟨by repeat (first | (with_reducible first | exact HB.out | apply below_alloc | apply pw_below_drewN | apply below_drew1 | refine below_set ?_ GE249.out | refine below_set ?_ GE253.out) | exact HB.out)⟩⟩
            case rest =>
              clear HC22
              try clear c1
              try clear c2
              try clear c2b0
              try clear c2b1
              try clear p2
              try clear q2
              try clear hx2
              try clear qi2
              try clear c3
              try clear c6
              try clear c6b0
              try clear c6b1
              try clear c7
              try clear c7b0
              try clear c7b1
              try clear c8
              try clear c8b0
              try clear c8b1
              try clear c15
              try clear c23
              try clear c23b0
              try clear c23b1
              try clear c24
              try clear c24b0
              try clear c24b1
              try clear hcz4_0
              try clear hcz4_1
              try clear hcz4_2
              try clear hcz4_3
              try clear hcz4_4
              try clear hcz4_5
              try clear hcz4_6
              try clear hcz4_7
              try clear hcz4_8
              try clear hfz4_0
              try clear hfz4_1
              try clear hfz4_2
              try clear hfz4_3
              try clear hfz4_4
              try clear hfz4_5
              try clear hfz4_6
              try clear hfz4_7
              try clear hfz4_8
              try clear hx251_0
              try clear hx252_0
              try clear hx254_0
              try clear p251
              try clear p252
              try clear p254
              try clear q251
              try clear q252
              try clear q254
              obtain ⟨kq, x31_21, rfl, HA, HJ21, BK249, BK253, HB⟩ := hcut
              cases kq with
              | zero => exact absurd HA.out (by simp [stolonref05_Decode.j0])
              | succ kj21 =>
                have H := HA.out
                clear HA
                simp only [stolonref05_Decode.j0] at H
                by_cases c25 : x31_21 = true
                · subst c25
                  have H1 : ((stolonref05_at.f l0 4).bind fun t255 => (stolonref05_Decode.j3 kj21 l0 8 (rd l0 0) 0 (rd l0 1) t255 false 0 0 ([] : List Int) ([] : List (S44)))) = some (r1, r2, r3, r4, r5, r6, r7, r8, r9, r10) := by rw [if_pos rfl] at H; exact H
                  clear H
                  have H := H1
                  clear H1
                  replace H := Option.bind_eq_some_iff.mp H
                  obtain ⟨t255, A260, H⟩ := H
                  replace H : (stolonref05_Decode.j3 kj21 l0 8 (rd l0 0) 0 (rd l0 1) t255 false 0 0 ([] : List Int) ([] : List (S44))) = some (r1, r2, r3, r4, r5, r6, r7, r8, r9, r10) := H
                  have A26 := Aside0.mk A260
                  clear A260
                  have H' := Aside0.mk H
                  clear H
                  go_wp2_with (first | ((with_reducible refine gate_callee (f := 39) rfl ?_); refine goesL_ (some 36) rfl rfl Try.func39 (by kernel_rfl) rfl #[.slice (some ad251) l0.length c0, .int .i64 4] rfl (by (try simp only [List.map_toArray, List.map_cons, List.map_nil]); first | done | rfl | (simp only [List.length_drop, List.length_take]; rfl)) ?_; (with_reducible refine (stolonref05_at.calls _ _ l0 4 t255 _ ?side1 ?side2 A26.out).mono ?_); (case side1 => repeat (first | exact (Kd.C_below HR0.out HB.out) | (with_reducible refine Kd.C_alloc ?_ _) | (with_reducible refine Kd.C_drewN ?_ _) | (with_reducible refine Kd.C_drew ?_))); (case side2 => exact HC0.out); rintro e w' ⟨rfl, ⟨nd, rfl⟩⟩; refine ⟨_, rfl, ?_⟩; (try (rw [drewN_self wc]; generalize hq_ : World.drewN wc _ = wc; have n0_ : Aside0 (wc.heap[gb249]? = some (.cells #[.int .u8 0, .int .i64 0, .int .u8 0, .int .u32 0, .bool false, .int .u8 0, .int .u8 0, .slice none 0 0, .slice none 0 0] 27 (0, 0))) := ⟨by rw [← hq_]; exact (by (with_reducible repeat (first | refine blk_drewN ?_ _ | refine blk_drew ?_ | refine blk_alloc ?_ _)); exact BK249.out)⟩; have n1_ : Aside0 (wc.heap[gb253]? = some (.cells #[.int .u8 (rd l0 0), .int .i64 0, .int .u8 (rd l0 1), .int .u32 0, .bool false, .int .u8 0, .int .u8 0, .slice none 0 0, .slice none 0 0] 27 (0, 0))) := ⟨by rw [← hq_]; exact (by (with_reducible repeat (first | refine blk_drewN ?_ _ | refine blk_drew ?_ | refine blk_alloc ?_ _)); exact BK253.out)⟩; have n2_ : Aside0 (Below w.heap.size w wc) := ⟨by rw [← hq_]; exact (by repeat (first | (with_reducible first | exact HB.out | apply below_alloc | apply pw_below_drewN | apply below_drew1 | refine below_set ?_ GE249.out | refine below_set ?_ GE253.out) | exact HB.out))⟩; clear BK249 BK253 HB hq_; have BK249 := n0_; have BK253 := n1_; have HB := n2_; clear n0_ n1_ n2_)); have hnb27 := NB253_249.out; have hnc27 := NB249_253.out; obtain ⟨hcz28_0, hcz28_1, hcz28_2, hcz28_3, hcz28_4, hcz28_5, hcz28_6, hcz28_7, hcz28_8, hfz28_0, hfz28_1, hfz28_2, hfz28_3, hfz28_4, hfz28_5, hfz28_6, hfz28_7, hfz28_8⟩ := blk9 BK253.out))
                  go_meet
                  case rel => exact ⟨_, (8), (0), (0), (0), (0), (false), (0), (0), (0), (t255), (false), (0), (0), (([] : List Int)), (([] : List (S44))), (.slice none 0 0), (.slice none 0 0), (by first | rfl | (simp; done) | (simp [*]; done)), H', ⟨by have := HJ21.out; first | omega | exact Nat.le_refl _⟩, ⟨by first | exact Kd.R_nil _ _ _ _ _ | exact Kd.N_nil _ _ _ _ _ | exact Kd.V_nil _ _ _ _ _ | exact Kd.Q_nil _ _ _ _ _ | exact Kd.S_nil _ _ _ _ _⟩, ⟨by first | exact Kd.S_nil _ _ _ _ _ | exact Kd.N_nil _ _ _ _ _ | exact Kd.V_nil _ _ _ _ _ | exact Kd.Q_nil _ _ _ _ _ | exact Kd.R_nil _ _ _ _ _⟩, ⟨by (with_reducible repeat (first | refine blk_drewN ?_ _ | refine blk_drew ?_ | refine blk_alloc ?_ _)); refine blk_far ?_ NB249_253.out _; (with_reducible repeat (first | refine blk_drewN ?_ _ | refine blk_drew ?_ | refine blk_alloc ?_ _)); exact BK249.out⟩, ⟨by (with_reducible repeat (first | refine blk_drewN ?_ _ | refine blk_drew ?_ | refine blk_alloc ?_ _)); refine blk_put (cs := #[.int .u8 (rd l0 0), .int .i64 0, .int .u8 (rd l0 1), .int .u32 0, .bool false, .int .u8 0, .int .u8 0, .slice none 0 0, .slice none 0 0]) ?_ 3 _ rfl; (with_reducible repeat (first | refine blk_drewN ?_ _ | refine blk_drew ?_ | refine blk_alloc ?_ _)); exact BK253.out⟩, ⟨by repeat (first | (with_reducible first | exact HB.out | apply below_alloc | apply pw_below_drewN | apply below_drew1 | refine below_set ?_ GE249.out | refine below_set ?_ GE253.out) | exact HB.out)⟩⟩
                · replace c25 := Bool.eq_false_iff.mpr c25
                  subst c25
                  have H1 : (if (rd l0 0) = 34 then ((stolonref05_records.f kj21 l0).bind fun bt256 => (if bt256.2.2 = true then ((stolonref05_two.f l0 4).bind fun t261 => (if t261 = 0 then (stolonref05_Decode.j3 kj21 l0 bt256.2.1 (rd l0 0) 0 (rd l0 1) 0 false 0 0 ([] : List Int) bt256.1) else (some (0, 0, 0, 0, false, 0, 0, ([] : List Int), ([] : List (S44)), 2)))) else (some (0, 0, 0, 0, false, 0, 0, ([] : List Int), ([] : List (S44)), 3)))) else (if (rd l0 0) = 17 then ((stolonref05_at.f l0 4).bind fun t262 => (if (l0.length : Int) = 8 then (if 1 < (l0.length : Int) then (stolonref05_Decode.j1 kj21 l0 8 ((rd l0 1) == 0) (rd l0 0) 2 (rd l0 1) t262 false 0 0) else (none)) else (stolonref05_Decode.j1 kj21 l0 8 false (rd l0 0) 2 (rd l0 1) t262 false 0 0))) else (some (0, 0, 0, 0, false, 0, 0, ([] : List Int), ([] : List (S44)), 2)))) = some (r1, r2, r3, r4, r5, r6, r7, r8, r9, r10) := by rw [if_neg (show ¬ (false = true) by decide)] at H; exact H
                  clear H
                  have H := H1
                  clear H1
                  by_cases c29 : (rd l0 0) = 34
                  · rw [if_pos c29] at H
                    have c29b0 : ((rd l0 0) == 34) = true := beq_iff_eq.mpr c29
                    have c29b1 : ((rd l0 0) != 34) = false := bne_eq_false_iff_eq.mpr c29
                    clear c29
                    replace H := Option.bind_eq_some_iff.mp H
                    obtain ⟨⟨t256, t257, t258⟩, A300, H⟩ := H
                    replace H : (if t258 = true then ((stolonref05_two.f l0 4).bind fun t261 => (if t261 = 0 then (stolonref05_Decode.j3 kj21 l0 t257 (rd l0 0) 0 (rd l0 1) 0 false 0 0 ([] : List Int) t256) else (some (0, 0, 0, 0, false, 0, 0, ([] : List Int), ([] : List (S44)), 2)))) else (some (0, 0, 0, 0, false, 0, 0, ([] : List Int), ([] : List (S44)), 3))) = some (r1, r2, r3, r4, r5, r6, r7, r8, r9, r10) := H
                    have A30 := Aside0.mk A300
                    clear A300
                    by_cases c31 : t258 = true
                    · subst c31
                      have H1 : ((stolonref05_two.f l0 4).bind fun t261 => (if t261 = 0 then (stolonref05_Decode.j3 kj21 l0 t257 (rd l0 0) 0 (rd l0 1) 0 false 0 0 ([] : List Int) t256) else (some (0, 0, 0, 0, false, 0, 0, ([] : List Int), ([] : List (S44)), 2)))) = some (r1, r2, r3, r4, r5, r6, r7, r8, r9, r10) := by rw [if_pos rfl] at H; exact H
                      clear H
                      have H := H1
                      clear H1
                      replace H := Option.bind_eq_some_iff.mp H
                      obtain ⟨t261, A320, H⟩ := H
                      replace H : (if t261 = 0 then (stolonref05_Decode.j3 kj21 l0 t257 (rd l0 0) 0 (rd l0 1) 0 false 0 0 ([] : List Int) t256) else (some (0, 0, 0, 0, false, 0, 0, ([] : List Int), ([] : List (S44)), 2))) = some (r1, r2, r3, r4, r5, r6, r7, r8, r9, r10) := H
                      have A32 := Aside0.mk A320
                      clear A320
                      by_cases c33 : t261 = 0
                      · rw [if_pos c33] at H
                        have c33b0 : (t261 == 0) = true := beq_iff_eq.mpr c33
                        have c33b1 : (t261 != 0) = false := bne_eq_false_iff_eq.mpr c33
                        clear c33
                        have H' := Aside0.mk H
                        clear H
                        go_wp2_with (first | ((with_reducible refine gate_callee (f := 40) rfl ?_); refine goesL_ (some 42) rfl rfl Try.func40 (by kernel_rfl) rfl #[.slice (some ad251) l0.length c0] rfl (by (try simp only [List.map_toArray, List.map_cons, List.map_nil]); first | done | rfl | (simp only [List.length_drop, List.length_take]; rfl)) ?_; (with_reducible refine (stolonref05_records.calls kj21 _ _ l0 t256 t257 true _ ?side1 ?side2 A30.out).mono ?_); (case side1 => repeat (first | exact (Kd.C_below HR0.out HB.out) | (with_reducible refine Kd.C_alloc ?_ _) | (with_reducible refine Kd.C_drewN ?_ _) | (with_reducible refine Kd.C_drew ?_))); (case side2 => exact HC0.out); rintro e w34 ⟨v259, rfl, ho0, hb⟩; refine ⟨_, rfl, ?_⟩; have n0_ := Aside0.mk (Kd.S_lower ho0 (below_size (by repeat (first | (with_reducible first | exact HB.out | apply below_alloc | apply pw_below_drewN | apply below_drew1 | refine below_set ?_ GE249.out | refine below_set ?_ GE253.out) | exact HB.out)))); have n1_ := Aside0.mk (blk_below (g := gb249) (o := .cells #[.int .u8 0, .int .i64 0, .int .u8 0, .int .u32 0, .bool false, .int .u8 0, .int .u8 0, .slice none 0 0, .slice none 0 0] 27 (0, 0)) (by (with_reducible repeat (first | refine blk_drewN ?_ _ | refine blk_drew ?_ | refine blk_alloc ?_ _)); exact BK249.out) hb); have n2_ := Aside0.mk (blk_below (g := gb253) (o := .cells #[.int .u8 (rd l0 0), .int .i64 0, .int .u8 (rd l0 1), .int .u32 0, .bool false, .int .u8 0, .int .u8 0, .slice none 0 0, .slice none 0 0] 27 (0, 0)) (by (with_reducible repeat (first | refine blk_drewN ?_ _ | refine blk_drew ?_ | refine blk_alloc ?_ _)); exact BK253.out) hb); have n3_ := Aside0.mk (below_step (by repeat (first | (with_reducible first | exact HB.out | apply below_alloc | apply pw_below_drewN | apply below_drew1 | refine below_set ?_ GE249.out | refine below_set ?_ GE253.out) | exact HB.out)) hb); clear BK249; clear BK253; clear HB; have HO260 := n0_; have BK249 := n1_; have BK253 := n2_; have HB := n3_; clear n0_ n1_ n2_ n3_; (try clear hb); (try clear hb2); (try clear hk); (try clear hi); (try clear ho0)) | ((with_reducible refine gate_callee (f := 41) rfl ?_); refine goesL_ (some 50) rfl rfl Try.func41 (by kernel_rfl) rfl #[.slice (some ad251) l0.length c0, .int .i64 4] rfl (by (try simp only [List.map_toArray, List.map_cons, List.map_nil]); first | done | rfl | (simp only [List.length_drop, List.length_take]; rfl)) ?_; (with_reducible refine (stolonref05_two.calls _ _ l0 4 t261 _ ?side1 ?side2 A32.out).mono ?_); (case side1 => repeat (first | exact (Kd.C_below HR0.out HB.out) | (with_reducible refine Kd.C_alloc ?_ _) | (with_reducible refine Kd.C_drewN ?_ _) | (with_reducible refine Kd.C_drew ?_))); (case side2 => exact HC0.out); rintro e w' ⟨rfl, ⟨nd, rfl⟩⟩; refine ⟨_, rfl, ?_⟩; (try (rw [drewN_self w34]; generalize hq_ : World.drewN w34 _ = w34; have n0_ : Aside0 (Kd.S k44 44 w34 w.heap.size (fun _ => True) v259 t256) := ⟨by rw [← hq_]; exact (by (with_reducible repeat (first | apply Kd.S_alloc | apply Kd.S_drewN | apply Kd.S_drew)); exact HO260.out)⟩; have n1_ : Aside0 (w34.heap[gb249]? = some (.cells #[.int .u8 0, .int .i64 0, .int .u8 0, .int .u32 0, .bool false, .int .u8 0, .int .u8 0, .slice none 0 0, .slice none 0 0] 27 (0, 0))) := ⟨by rw [← hq_]; exact (by (with_reducible repeat (first | refine blk_drewN ?_ _ | refine blk_drew ?_ | refine blk_alloc ?_ _)); exact BK249.out)⟩; have n2_ : Aside0 (w34.heap[gb253]? = some (.cells #[.int .u8 (rd l0 0), .int .i64 0, .int .u8 (rd l0 1), .int .u32 0, .bool false, .int .u8 0, .int .u8 0, .slice none 0 0, .slice none 0 0] 27 (0, 0))) := ⟨by rw [← hq_]; exact (by (with_reducible repeat (first | refine blk_drewN ?_ _ | refine blk_drew ?_ | refine blk_alloc ?_ _)); exact BK253.out)⟩; have n3_ : Aside0 (Below w.heap.size w w34) := ⟨by rw [← hq_]; exact (by repeat (first | (with_reducible first | exact HB.out | apply below_alloc | apply pw_below_drewN | apply below_drew1 | refine below_set ?_ GE249.out | refine below_set ?_ GE253.out) | exact HB.out))⟩; clear HO260 BK249 BK253 HB hq_; have HO260 := n0_; have BK249 := n1_; have BK253 := n2_; have HB := n3_; clear n0_ n1_ n2_ n3_)); obtain ⟨Ao35, co35, eo35⟩ := Kd.S_slice HO260.out; subst eo35; have hnb36 := NB253_249.out; have hnc36 := NB249_253.out; obtain ⟨hcz37_0, hcz37_1, hcz37_2, hcz37_3, hcz37_4, hcz37_5, hcz37_6, hcz37_7, hcz37_8, hfz37_0, hfz37_1, hfz37_2, hfz37_3, hfz37_4, hfz37_5, hfz37_6, hfz37_7, hfz37_8⟩ := blk9 BK253.out))
                        go_meet
                        case rel => exact ⟨_, (t257), (0), (0), (0), (0), (false), (0), (0), (0), (0), (false), (0), (0), (([] : List Int)), (t256), (.slice none 0 0), (.slice Ao35 t256.length co35), (by first | rfl | (simp; done) | (simp [*]; done)), H', ⟨by have := HJ21.out; first | omega | exact Nat.le_refl _⟩, ⟨by first | exact Kd.R_nil _ _ _ _ _ | exact Kd.N_nil _ _ _ _ _ | exact Kd.V_nil _ _ _ _ _ | exact Kd.Q_nil _ _ _ _ _ | exact Kd.S_nil _ _ _ _ _⟩, ⟨by (with_reducible repeat (first | apply Kd.S_alloc | apply Kd.S_drewN | apply Kd.S_drew)); exact Kd.S_mono (Kd.S_far (p := ⟨gb253, 8, none⟩) (Kd.S_types HO260.out BK253.out (by decide)) (fun _ hk => hk.2) (.slice Ao35 t256.length co35)) (fun _ hk => (by simp [Value.ownBlock]))⟩, ⟨by (with_reducible repeat (first | refine blk_drewN ?_ _ | refine blk_drew ?_ | refine blk_alloc ?_ _)); refine blk_far ?_ NB249_253.out _; (with_reducible repeat (first | refine blk_drewN ?_ _ | refine blk_drew ?_ | refine blk_alloc ?_ _)); exact BK249.out⟩, ⟨by (with_reducible repeat (first | refine blk_drewN ?_ _ | refine blk_drew ?_ | refine blk_alloc ?_ _)); refine blk_put (cs := #[.int .u8 (rd l0 0), .int .i64 0, .int .u8 (rd l0 1), .int .u32 0, .bool false, .int .u8 0, .int .u8 0, .slice none 0 0, .slice none 0 0]) ?_ 8 _ rfl; (with_reducible repeat (first | refine blk_drewN ?_ _ | refine blk_drew ?_ | refine blk_alloc ?_ _)); exact BK253.out⟩, ⟨by repeat (first | (with_reducible first | exact HB.out | apply below_alloc | apply pw_below_drewN | apply below_drew1 | refine below_set ?_ GE249.out | refine below_set ?_ GE253.out) | exact HB.out)⟩⟩
                      · rw [if_neg c33] at H
                        have c33b0 : (t261 == 0) = false := beq_eq_false_iff_ne.mpr c33
                        have c33b1 : (t261 != 0) = true := bne_iff_ne.mpr c33
                        simp only [Option.some.injEq, Prod.mk.injEq] at H
                        obtain ⟨rfl, rfl, rfl, rfl, rfl, rfl, rfl, rfl, rfl, rfl⟩ := H
                        go_wp2_with (first | ((with_reducible refine gate_callee (f := 40) rfl ?_); refine goesL_ (some 42) rfl rfl Try.func40 (by kernel_rfl) rfl #[.slice (some ad251) l0.length c0] rfl (by (try simp only [List.map_toArray, List.map_cons, List.map_nil]); first | done | rfl | (simp only [List.length_drop, List.length_take]; rfl)) ?_; (with_reducible refine (stolonref05_records.calls kj21 _ _ l0 t256 t257 true _ ?side1 ?side2 A30.out).mono ?_); (case side1 => repeat (first | exact (Kd.C_below HR0.out HB.out) | (with_reducible refine Kd.C_alloc ?_ _) | (with_reducible refine Kd.C_drewN ?_ _) | (with_reducible refine Kd.C_drew ?_))); (case side2 => exact HC0.out); rintro e w38 ⟨v259, rfl, ho0, hb⟩; refine ⟨_, rfl, ?_⟩; have n0_ := Aside0.mk (Kd.S_lower ho0 (below_size (by repeat (first | (with_reducible first | exact HB.out | apply below_alloc | apply pw_below_drewN | apply below_drew1 | refine below_set ?_ GE249.out | refine below_set ?_ GE253.out) | exact HB.out)))); have n1_ := Aside0.mk (blk_below (g := gb249) (o := .cells #[.int .u8 0, .int .i64 0, .int .u8 0, .int .u32 0, .bool false, .int .u8 0, .int .u8 0, .slice none 0 0, .slice none 0 0] 27 (0, 0)) (by (with_reducible repeat (first | refine blk_drewN ?_ _ | refine blk_drew ?_ | refine blk_alloc ?_ _)); exact BK249.out) hb); have n2_ := Aside0.mk (blk_below (g := gb253) (o := .cells #[.int .u8 (rd l0 0), .int .i64 0, .int .u8 (rd l0 1), .int .u32 0, .bool false, .int .u8 0, .int .u8 0, .slice none 0 0, .slice none 0 0] 27 (0, 0)) (by (with_reducible repeat (first | refine blk_drewN ?_ _ | refine blk_drew ?_ | refine blk_alloc ?_ _)); exact BK253.out) hb); have n3_ := Aside0.mk (below_step (by repeat (first | (with_reducible first | exact HB.out | apply below_alloc | apply pw_below_drewN | apply below_drew1 | refine below_set ?_ GE249.out | refine below_set ?_ GE253.out) | exact HB.out)) hb); clear BK249; clear BK253; clear HB; have HO260 := n0_; have BK249 := n1_; have BK253 := n2_; have HB := n3_; clear n0_ n1_ n2_ n3_; (try clear hb); (try clear hb2); (try clear hk); (try clear hi); (try clear ho0)) | ((with_reducible refine gate_callee (f := 41) rfl ?_); refine goesL_ (some 50) rfl rfl Try.func41 (by kernel_rfl) rfl #[.slice (some ad251) l0.length c0, .int .i64 4] rfl (by (try simp only [List.map_toArray, List.map_cons, List.map_nil]); first | done | rfl | (simp only [List.length_drop, List.length_take]; rfl)) ?_; (with_reducible refine (stolonref05_two.calls _ _ l0 4 t261 _ ?side1 ?side2 A32.out).mono ?_); (case side1 => repeat (first | exact (Kd.C_below HR0.out HB.out) | (with_reducible refine Kd.C_alloc ?_ _) | (with_reducible refine Kd.C_drewN ?_ _) | (with_reducible refine Kd.C_drew ?_))); (case side2 => exact HC0.out); rintro e w' ⟨rfl, ⟨nd, rfl⟩⟩; refine ⟨_, rfl, ?_⟩; (try (rw [drewN_self w38]; generalize hq_ : World.drewN w38 _ = w38; have n0_ : Aside0 (Kd.S k44 44 w38 w.heap.size (fun _ => True) v259 t256) := ⟨by rw [← hq_]; exact (by (with_reducible repeat (first | apply Kd.S_alloc | apply Kd.S_drewN | apply Kd.S_drew)); exact HO260.out)⟩; have n1_ : Aside0 (w38.heap[gb249]? = some (.cells #[.int .u8 0, .int .i64 0, .int .u8 0, .int .u32 0, .bool false, .int .u8 0, .int .u8 0, .slice none 0 0, .slice none 0 0] 27 (0, 0))) := ⟨by rw [← hq_]; exact (by (with_reducible repeat (first | refine blk_drewN ?_ _ | refine blk_drew ?_ | refine blk_alloc ?_ _)); exact BK249.out)⟩; have n2_ : Aside0 (w38.heap[gb253]? = some (.cells #[.int .u8 (rd l0 0), .int .i64 0, .int .u8 (rd l0 1), .int .u32 0, .bool false, .int .u8 0, .int .u8 0, .slice none 0 0, .slice none 0 0] 27 (0, 0))) := ⟨by rw [← hq_]; exact (by (with_reducible repeat (first | refine blk_drewN ?_ _ | refine blk_drew ?_ | refine blk_alloc ?_ _)); exact BK253.out)⟩; have n3_ : Aside0 (Below w.heap.size w w38) := ⟨by rw [← hq_]; exact (by repeat (first | (with_reducible first | exact HB.out | apply below_alloc | apply pw_below_drewN | apply below_drew1 | refine below_set ?_ GE249.out | refine below_set ?_ GE253.out) | exact HB.out))⟩; clear HO260 BK249 BK253 HB hq_; have HO260 := n0_; have BK249 := n1_; have BK253 := n2_; have HB := n3_; clear n0_ n1_ n2_ n3_)); have hnb39 := NB249_253.out; have hnc39 := NB253_249.out; obtain ⟨hcz40_0, hcz40_1, hcz40_2, hcz40_3, hcz40_4, hcz40_5, hcz40_6, hcz40_7, hcz40_8, hfz40_0, hfz40_1, hfz40_2, hfz40_3, hfz40_4, hfz40_5, hfz40_6, hfz40_7, hfz40_8⟩ := blk9 BK249.out))
                        refine bodyPost_ret (results_ct rfl _ _ gb249 27 #[.int .u8 0, .int .i64 0, .int .u8 0, .int .u32 0, .bool false, .int .u8 0, .int .u8 0, .slice none 0 0, .slice none 0 0] (0, 0) _ rfl (by (with_reducible repeat (first | refine blk_drewN ?_ _ | refine blk_drew ?_ | refine blk_alloc ?_ _)); refine blk_put (cs := #[.int .u8 0, .int .i64 0, .int .u8 0, .int .u32 0, .bool false, .int .u8 0, .int .u8 0, .slice none 0 0, .slice none 0 0]) ?_ 8 _ rfl; (with_reducible repeat (first | refine blk_drewN ?_ _ | refine blk_drew ?_ | refine blk_alloc ?_ _)); refine blk_put (cs := #[.int .u8 0, .int .i64 0, .int .u8 0, .int .u32 0, .bool false, .int .u8 0, .int .u8 0, .slice none 0 0, .slice none 0 0]) ?_ 7 _ rfl; (with_reducible repeat (first | refine blk_drewN ?_ _ | refine blk_drew ?_ | refine blk_alloc ?_ _)); refine blk_put (cs := #[.int .u8 0, .int .i64 0, .int .u8 0, .int .u32 0, .bool false, .int .u8 0, .int .u8 0, .slice none 0 0, .slice none 0 0]) ?_ 6 _ rfl; (with_reducible repeat (first | refine blk_drewN ?_ _ | refine blk_drew ?_ | refine blk_alloc ?_ _)); refine blk_put (cs := #[.int .u8 0, .int .i64 0, .int .u8 0, .int .u32 0, .bool false, .int .u8 0, .int .u8 0, .slice none 0 0, .slice none 0 0]) ?_ 5 _ rfl; (with_reducible repeat (first | refine blk_drewN ?_ _ | refine blk_drew ?_ | refine blk_alloc ?_ _)); refine blk_put (cs := #[.int .u8 0, .int .i64 0, .int .u8 0, .int .u32 0, .bool false, .int .u8 0, .int .u8 0, .slice none 0 0, .slice none 0 0]) ?_ 4 _ rfl; (with_reducible repeat (first | refine blk_drewN ?_ _ | refine blk_drew ?_ | refine blk_alloc ?_ _)); refine blk_put (cs := #[.int .u8 0, .int .i64 0, .int .u8 0, .int .u32 0, .bool false, .int .u8 0, .int .u8 0, .slice none 0 0, .slice none 0 0]) ?_ 3 _ rfl; (with_reducible repeat (first | refine blk_drewN ?_ _ | refine blk_drew ?_ | refine blk_alloc ?_ _)); refine blk_put (cs := #[.int .u8 0, .int .i64 0, .int .u8 0, .int .u32 0, .bool false, .int .u8 0, .int .u8 0, .slice none 0 0, .slice none 0 0]) ?_ 2 _ rfl; (with_reducible repeat (first | refine blk_drewN ?_ _ | refine blk_drew ?_ | refine blk_alloc ?_ _)); refine blk_put (cs := #[.int .u8 0, .int .i64 0, .int .u8 0, .int .u32 0, .bool false, .int .u8 0, .int .u8 0, .slice none 0 0, .slice none 0 0]) ?_ 1 _ rfl; (with_reducible repeat (first | refine blk_drewN ?_ _ | refine blk_drew ?_ | refine blk_alloc ?_ _)); refine blk_put (cs := #[.int .u8 0, .int .i64 0, .int .u8 0, .int .u32 0, .bool false, .int .u8 0, .int .u8 0, .slice none 0 0, .slice none 0 0]) ?_ 0 _ rfl; (with_reducible repeat (first | refine blk_drewN ?_ _ | refine blk_drew ?_ | refine blk_alloc ?_ _)); exact BK249.out) Try.underlying27 rfl (by kernel_rfl)) rfl ?_
                        exact ⟨_, _, by first | rfl | (simp [errW_none, errW_some] <;> rfl) | (simp [*, errW_none, errW_some] <;> rfl), by first | exact Kd.R_nil _ _ _ _ _ | exact Kd.N_nil _ _ _ _ _ | exact Kd.V_nil _ _ _ _ _ | exact Kd.Q_nil _ _ _ _ _ | exact Kd.S_nil _ _ _ _ _, by first | exact Kd.S_nil _ _ _ _ _ | exact Kd.N_nil _ _ _ _ _ | exact Kd.V_nil _ _ _ _ _ | exact Kd.Q_nil _ _ _ _ _ | exact Kd.R_nil _ _ _ _ _, by repeat (first | (with_reducible first | exact HB.out | apply below_alloc | apply pw_below_drewN | apply below_drew1 | refine below_set ?_ GE249.out | refine below_set ?_ GE253.out) | exact HB.out)⟩
                    · replace c31 := Bool.eq_false_iff.mpr c31
                      subst c31
                      have H1 : (some (0, 0, 0, 0, false, 0, 0, ([] : List Int), ([] : List (S44)), 3)) = some (r1, r2, r3, r4, r5, r6, r7, r8, r9, r10) := by rw [if_neg (show ¬ (false = true) by decide)] at H; exact H
                      clear H
                      have H := H1
                      clear H1
                      simp only [Option.some.injEq, Prod.mk.injEq] at H
                      obtain ⟨rfl, rfl, rfl, rfl, rfl, rfl, rfl, rfl, rfl, rfl⟩ := H
                      go_wp2_with (first | ((with_reducible refine gate_callee (f := 40) rfl ?_); refine goesL_ (some 42) rfl rfl Try.func40 (by kernel_rfl) rfl #[.slice (some ad251) l0.length c0] rfl (by (try simp only [List.map_toArray, List.map_cons, List.map_nil]); first | done | rfl | (simp only [List.length_drop, List.length_take]; rfl)) ?_; (with_reducible refine (stolonref05_records.calls kj21 _ _ l0 t256 t257 false _ ?side1 ?side2 A30.out).mono ?_); (case side1 => repeat (first | exact (Kd.C_below HR0.out HB.out) | (with_reducible refine Kd.C_alloc ?_ _) | (with_reducible refine Kd.C_drewN ?_ _) | (with_reducible refine Kd.C_drew ?_))); (case side2 => exact HC0.out); rintro e w41 ⟨v259, rfl, ho0, hb⟩; refine ⟨_, rfl, ?_⟩; have n0_ := Aside0.mk (Kd.S_lower ho0 (below_size (by repeat (first | (with_reducible first | exact HB.out | apply below_alloc | apply pw_below_drewN | apply below_drew1 | refine below_set ?_ GE249.out | refine below_set ?_ GE253.out) | exact HB.out)))); have n1_ := Aside0.mk (blk_below (g := gb249) (o := .cells #[.int .u8 0, .int .i64 0, .int .u8 0, .int .u32 0, .bool false, .int .u8 0, .int .u8 0, .slice none 0 0, .slice none 0 0] 27 (0, 0)) (by (with_reducible repeat (first | refine blk_drewN ?_ _ | refine blk_drew ?_ | refine blk_alloc ?_ _)); exact BK249.out) hb); have n2_ := Aside0.mk (blk_below (g := gb253) (o := .cells #[.int .u8 (rd l0 0), .int .i64 0, .int .u8 (rd l0 1), .int .u32 0, .bool false, .int .u8 0, .int .u8 0, .slice none 0 0, .slice none 0 0] 27 (0, 0)) (by (with_reducible repeat (first | refine blk_drewN ?_ _ | refine blk_drew ?_ | refine blk_alloc ?_ _)); exact BK253.out) hb); have n3_ := Aside0.mk (below_step (by repeat (first | (with_reducible first | exact HB.out | apply below_alloc | apply pw_below_drewN | apply below_drew1 | refine below_set ?_ GE249.out | refine below_set ?_ GE253.out) | exact HB.out)) hb); clear BK249; clear BK253; clear HB; have HO260 := n0_; have BK249 := n1_; have BK253 := n2_; have HB := n3_; clear n0_ n1_ n2_ n3_; (try clear hb); (try clear hb2); (try clear hk); (try clear hi); (try clear ho0); have hnb42 := NB249_253.out; have hnc42 := NB253_249.out; obtain ⟨hcz43_0, hcz43_1, hcz43_2, hcz43_3, hcz43_4, hcz43_5, hcz43_6, hcz43_7, hcz43_8, hfz43_0, hfz43_1, hfz43_2, hfz43_3, hfz43_4, hfz43_5, hfz43_6, hfz43_7, hfz43_8⟩ := blk9 BK249.out))
                      refine bodyPost_ret (results_ct rfl _ _ gb249 27 #[.int .u8 0, .int .i64 0, .int .u8 0, .int .u32 0, .bool false, .int .u8 0, .int .u8 0, .slice none 0 0, .slice none 0 0] (0, 0) _ rfl (by (with_reducible repeat (first | refine blk_drewN ?_ _ | refine blk_drew ?_ | refine blk_alloc ?_ _)); refine blk_put (cs := #[.int .u8 0, .int .i64 0, .int .u8 0, .int .u32 0, .bool false, .int .u8 0, .int .u8 0, .slice none 0 0, .slice none 0 0]) ?_ 8 _ rfl; (with_reducible repeat (first | refine blk_drewN ?_ _ | refine blk_drew ?_ | refine blk_alloc ?_ _)); refine blk_put (cs := #[.int .u8 0, .int .i64 0, .int .u8 0, .int .u32 0, .bool false, .int .u8 0, .int .u8 0, .slice none 0 0, .slice none 0 0]) ?_ 7 _ rfl; (with_reducible repeat (first | refine blk_drewN ?_ _ | refine blk_drew ?_ | refine blk_alloc ?_ _)); refine blk_put (cs := #[.int .u8 0, .int .i64 0, .int .u8 0, .int .u32 0, .bool false, .int .u8 0, .int .u8 0, .slice none 0 0, .slice none 0 0]) ?_ 6 _ rfl; (with_reducible repeat (first | refine blk_drewN ?_ _ | refine blk_drew ?_ | refine blk_alloc ?_ _)); refine blk_put (cs := #[.int .u8 0, .int .i64 0, .int .u8 0, .int .u32 0, .bool false, .int .u8 0, .int .u8 0, .slice none 0 0, .slice none 0 0]) ?_ 5 _ rfl; (with_reducible repeat (first | refine blk_drewN ?_ _ | refine blk_drew ?_ | refine blk_alloc ?_ _)); refine blk_put (cs := #[.int .u8 0, .int .i64 0, .int .u8 0, .int .u32 0, .bool false, .int .u8 0, .int .u8 0, .slice none 0 0, .slice none 0 0]) ?_ 4 _ rfl; (with_reducible repeat (first | refine blk_drewN ?_ _ | refine blk_drew ?_ | refine blk_alloc ?_ _)); refine blk_put (cs := #[.int .u8 0, .int .i64 0, .int .u8 0, .int .u32 0, .bool false, .int .u8 0, .int .u8 0, .slice none 0 0, .slice none 0 0]) ?_ 3 _ rfl; (with_reducible repeat (first | refine blk_drewN ?_ _ | refine blk_drew ?_ | refine blk_alloc ?_ _)); refine blk_put (cs := #[.int .u8 0, .int .i64 0, .int .u8 0, .int .u32 0, .bool false, .int .u8 0, .int .u8 0, .slice none 0 0, .slice none 0 0]) ?_ 2 _ rfl; (with_reducible repeat (first | refine blk_drewN ?_ _ | refine blk_drew ?_ | refine blk_alloc ?_ _)); refine blk_put (cs := #[.int .u8 0, .int .i64 0, .int .u8 0, .int .u32 0, .bool false, .int .u8 0, .int .u8 0, .slice none 0 0, .slice none 0 0]) ?_ 1 _ rfl; (with_reducible repeat (first | refine blk_drewN ?_ _ | refine blk_drew ?_ | refine blk_alloc ?_ _)); refine blk_put (cs := #[.int .u8 0, .int .i64 0, .int .u8 0, .int .u32 0, .bool false, .int .u8 0, .int .u8 0, .slice none 0 0, .slice none 0 0]) ?_ 0 _ rfl; (with_reducible repeat (first | refine blk_drewN ?_ _ | refine blk_drew ?_ | refine blk_alloc ?_ _)); exact BK249.out) Try.underlying27 rfl (by kernel_rfl)) rfl ?_
                      exact ⟨_, _, by first | rfl | (simp [errW_none, errW_some] <;> rfl) | (simp [*, errW_none, errW_some] <;> rfl), by first | exact Kd.R_nil _ _ _ _ _ | exact Kd.N_nil _ _ _ _ _ | exact Kd.V_nil _ _ _ _ _ | exact Kd.Q_nil _ _ _ _ _ | exact Kd.S_nil _ _ _ _ _, by first | exact Kd.S_nil _ _ _ _ _ | exact Kd.N_nil _ _ _ _ _ | exact Kd.V_nil _ _ _ _ _ | exact Kd.Q_nil _ _ _ _ _ | exact Kd.R_nil _ _ _ _ _, by repeat (first | (with_reducible first | exact HB.out | apply below_alloc | apply pw_below_drewN | apply below_drew1 | refine below_set ?_ GE249.out | refine below_set ?_ GE253.out) | exact HB.out)⟩
                  · rw [if_neg c29] at H
                    have c29b0 : ((rd l0 0) == 34) = false := beq_eq_false_iff_ne.mpr c29
                    have c29b1 : ((rd l0 0) != 34) = true := bne_iff_ne.mpr c29
                    by_cases c44 : (rd l0 0) = 17
                    · rw [if_pos c44] at H
                      have c44b0 : ((rd l0 0) == 17) = true := beq_iff_eq.mpr c44
                      have c44b1 : ((rd l0 0) != 17) = false := bne_eq_false_iff_eq.mpr c44
                      clear c44
                      replace H := Option.bind_eq_some_iff.mp H
                      obtain ⟨t262, A450, H⟩ := H
                      replace H : (if (l0.length : Int) = 8 then (if 1 < (l0.length : Int) then (stolonref05_Decode.j1 kj21 l0 8 ((rd l0 1) == 0) (rd l0 0) 2 (rd l0 1) t262 false 0 0) else (none)) else (stolonref05_Decode.j1 kj21 l0 8 false (rd l0 0) 2 (rd l0 1) t262 false 0 0)) = some (r1, r2, r3, r4, r5, r6, r7, r8, r9, r10) := H
                      have A45 := Aside0.mk A450
                      clear A450
                      have HC46 := Aside0.mk H
                      clear H
                      go_upto_region 24 with (first | ((with_reducible refine gate_callee (f := 39) rfl ?_); refine goesL_ (some 59) rfl rfl Try.func39 (by kernel_rfl) rfl #[.slice (some ad251) l0.length c0, .int .i64 4] rfl (by (try simp only [List.map_toArray, List.map_cons, List.map_nil]); first | done | rfl | (simp only [List.length_drop, List.length_take]; rfl)) ?_; (with_reducible refine (stolonref05_at.calls _ _ l0 4 t262 _ ?side1 ?side2 A45.out).mono ?_); (case side1 => repeat (first | exact (Kd.C_below HR0.out HB.out) | (with_reducible refine Kd.C_alloc ?_ _) | (with_reducible refine Kd.C_drewN ?_ _) | (with_reducible refine Kd.C_drew ?_))); (case side2 => exact HC0.out); rintro e w' ⟨rfl, ⟨nd, rfl⟩⟩; refine ⟨_, rfl, ?_⟩; (try (rw [drewN_self wc]; generalize hq_ : World.drewN wc _ = wc; have n0_ : Aside0 (wc.heap[gb249]? = some (.cells #[.int .u8 0, .int .i64 0, .int .u8 0, .int .u32 0, .bool false, .int .u8 0, .int .u8 0, .slice none 0 0, .slice none 0 0] 27 (0, 0))) := ⟨by rw [← hq_]; exact (by (with_reducible repeat (first | refine blk_drewN ?_ _ | refine blk_drew ?_ | refine blk_alloc ?_ _)); exact BK249.out)⟩; have n1_ : Aside0 (wc.heap[gb253]? = some (.cells #[.int .u8 (rd l0 0), .int .i64 0, .int .u8 (rd l0 1), .int .u32 0, .bool false, .int .u8 0, .int .u8 0, .slice none 0 0, .slice none 0 0] 27 (0, 0))) := ⟨by rw [← hq_]; exact (by (with_reducible repeat (first | refine blk_drewN ?_ _ | refine blk_drew ?_ | refine blk_alloc ?_ _)); exact BK253.out)⟩; have n2_ : Aside0 (Below w.heap.size w wc) := ⟨by rw [← hq_]; exact (by repeat (first | (with_reducible first | exact HB.out | apply below_alloc | apply pw_below_drewN | apply below_drew1 | refine below_set ?_ GE249.out | refine below_set ?_ GE253.out) | exact HB.out))⟩; clear BK249 BK253 HB hq_; have BK249 := n0_; have BK253 := n1_; have HB := n2_; clear n0_ n1_ n2_)); have hnb47 := NB253_249.out; have hnc47 := NB249_253.out; obtain ⟨hcz48_0, hcz48_1, hcz48_2, hcz48_3, hcz48_4, hcz48_5, hcz48_6, hcz48_7, hcz48_8, hfz48_0, hfz48_1, hfz48_2, hfz48_3, hfz48_4, hfz48_5, hfz48_6, hfz48_7, hfz48_8⟩ := blk9 BK253.out))
                      (try simp only [Act.put, List.setIfInBounds_toArray, List.set_cons_zero, List.set_cons_succ])
                      go_cut [70] (fun v70 wc => ∃ (kq : Nat) (x70_45 : Bool), v70 = .bool x70_45 ∧ Aside0 (stolonref05_Decode.j1 kq l0 8 x70_45 (rd l0 0) 2 (rd l0 1) t262 false 0 0 = some (r1, r2, r3, r4, r5, r6, r7, r8, r9, r10)) ∧ Aside0 (kq ≤ kj21) ∧ Aside0 (wc.heap[gb249]? = some (.cells #[.int .u8 0, .int .i64 0, .int .u8 0, .int .u32 0, .bool false, .int .u8 0, .int .u8 0, (.slice none 0 0), (.slice none 0 0)] 27 (0, 0))) ∧ Aside0 (wc.heap[gb253]? = some (.cells #[.int .u8 (rd l0 0), .int .i64 2, .int .u8 (rd l0 1), .int .u32 t262, .bool false, .int .u8 0, .int .u8 0, (.slice none 0 0), (.slice none 0 0)] 27 (0, 0))) ∧ Aside0 (Below w.heap.size w wc))
                      case first =>
                        have H := HC46.out
                        clear HC46
                        by_cases c49 : (l0.length : Int) = 8
                        · rw [if_pos c49] at H
                          have c49b0 : ((l0.length : Int) == 8) = true := beq_iff_eq.mpr c49
                          have c49b1 : ((l0.length : Int) != 8) = false := bne_eq_false_iff_eq.mpr c49
                          clear c49
                          (first | rw [c49b0] | (simp only [i64_w, i32_w]; rw [c49b0]) | skip)
                          by_cases c50 : 1 < (l0.length : Int)
                          · rw [if_pos c50] at H
                            have c50b0 : decide (1 < (l0.length : Int)) = true := decide_eq_true c50
                            have c50b1 : decide (1 < l0.length) = true := decide_eq_true (by omega)
                            clear c50
                            have H' := Aside0.mk H
                            clear H
                            have p263 : 0 ≤ (1 : Int) := (by omega)
                            have q263 : 1 < (l0.length : Int) := of_decide_eq_true (by first | (with_reducible assumption) | assumption)
                            obtain ⟨ad263, e263, hx263_0⟩ := Kd.at_int HR0.out 1 p263 q263
                            obtain rfl : ad251 = ad263 := (by injection e263)
                            (try simp only [show (1 : Int).toNat = 1 from rfl, Nat.reduceMul, Nat.reduceEqDiff, Go.Addr.add, ↓reduceIte] at hx263_0)
                            have qi263 : (1 < l0.length) = True := eq_true (by omega)
                            (try rw [show ((1 : Int)).toNat = 1 from rfl] at hx263_0)
                            have hn263_0 : ad251.block ≠ gb253 := Nat.ne_of_lt (Nat.lt_of_lt_of_le (by have := World.block_lt_of_cell? _ _ hx263_0; first | rwa [add_block] at this | exact this) GW253.out)
                            have hn263_1 : ad251.block ≠ gb253 := Nat.ne_of_lt (Nat.lt_of_lt_of_le (by have := World.block_lt_of_cell? _ _ hx263_0; first | rwa [add_block] at this | exact this) GW253.out)
                            replace hx263_0 := (HB.out.cell (World.block_lt_of_cell? w _ hx263_0)).trans hx263_0
                            replace hx263_0 := (cell_far (p := ⟨gb253, 3, none⟩) (by first | (rw [add_block]; exact hn263_0) | (show (Addr.add _ _).block ≠ _; rw [add_block]; exact hn263_0) | exact hn263_0) (.int .u32 t262)).trans hx263_0
                            replace hx263_0 := (cell_far (p := ⟨gb253, 1, none⟩) (by first | (rw [add_block]; exact hn263_1) | (show (Addr.add _ _).block ≠ _; rw [add_block]; exact hn263_1) | exact hn263_1) (.int .i64 2)).trans hx263_0
                            clear hn263_0
                            clear hn263_1
                            replace p263 := eq_true p263
                            replace q263 := eq_true q263
                            go_wp2
                            go_meet
                            case rel => exact ⟨_, (((rd l0 1) == 0)), (by first | rfl | (simp; done) | (simp [*]; done)), H', ⟨by have := HJ21.out; first | omega | exact Nat.le_refl _⟩, ⟨by (with_reducible repeat (first | refine blk_drewN ?_ _ | refine blk_drew ?_ | refine blk_alloc ?_ _)); refine blk_far ?_ NB249_253.out _; (with_reducible repeat (first | refine blk_drewN ?_ _ | refine blk_drew ?_ | refine blk_alloc ?_ _)); refine blk_far ?_ NB249_253.out _; (with_reducible repeat (first | refine blk_drewN ?_ _ | refine blk_drew ?_ | refine blk_alloc ?_ _)); exact BK249.out⟩, ⟨by (with_reducible repeat (first | refine blk_drewN ?_ _ | refine blk_drew ?_ | refine blk_alloc ?_ _)); refine blk_put (cs := #[.int .u8 (rd l0 0), .int .i64 0, .int .u8 (rd l0 1), .int .u32 t262, .bool false, .int .u8 0, .int .u8 0, .slice none 0 0, .slice none 0 0]) ?_ 1 _ rfl; (with_reducible repeat (first | refine blk_drewN ?_ _ | refine blk_drew ?_ | refine blk_alloc ?_ _)); refine blk_put (cs := #[.int .u8 (rd l0 0), .int .i64 0, .int .u8 (rd l0 1), .int .u32 0, .bool false, .int .u8 0, .int .u8 0, .slice none 0 0, .slice none 0 0]) ?_ 3 _ rfl; (with_reducible repeat (first | refine blk_drewN ?_ _ | refine blk_drew ?_ | refine blk_alloc ?_ _)); exact BK253.out⟩, ⟨by repeat (first | (with_reducible first | exact HB.out | apply below_alloc | apply pw_below_drewN | apply below_drew1 | refine below_set ?_ GE249.out | refine below_set ?_ GE253.out) | exact HB.out)⟩⟩
                          · rw [if_neg c50] at H
                            exact absurd H (by simp)
                        · rw [if_neg c49] at H
                          have c49b0 : ((l0.length : Int) == 8) = false := beq_eq_false_iff_ne.mpr c49
                          have c49b1 : ((l0.length : Int) != 8) = true := bne_iff_ne.mpr c49
                          (first | rw [c49b0] | (simp only [i64_w, i32_w]; rw [c49b0]) | skip)
                          have H' := Aside0.mk H
                          clear H
                          go_wp2
                          go_meet
                          case rel => exact ⟨_, (false), (by first | rfl | (simp; done) | (simp [*]; done)), H', ⟨by have := HJ21.out; first | omega | exact Nat.le_refl _⟩, ⟨by (with_reducible repeat (first | refine blk_drewN ?_ _ | refine blk_drew ?_ | refine blk_alloc ?_ _)); refine blk_far ?_ NB249_253.out _; (with_reducible repeat (first | refine blk_drewN ?_ _ | refine blk_drew ?_ | refine blk_alloc ?_ _)); refine blk_far ?_ NB249_253.out _; (with_reducible repeat (first | refine blk_drewN ?_ _ | refine blk_drew ?_ | refine blk_alloc ?_ _)); exact BK249.out⟩, ⟨by (with_reducible repeat (first | refine blk_drewN ?_ _ | refine blk_drew ?_ | refine blk_alloc ?_ _)); refine blk_put (cs := #[.int .u8 (rd l0 0), .int .i64 0, .int .u8 (rd l0 1), .int .u32 t262, .bool false, .int .u8 0, .int .u8 0, .slice none 0 0, .slice none 0 0]) ?_ 1 _ rfl; (with_reducible repeat (first | refine blk_drewN ?_ _ | refine blk_drew ?_ | refine blk_alloc ?_ _)); refine blk_put (cs := #[.int .u8 (rd l0 0), .int .i64 0, .int .u8 (rd l0 1), .int .u32 0, .bool false, .int .u8 0, .int .u8 0, .slice none 0 0, .slice none 0 0]) ?_ 3 _ rfl; (with_reducible repeat (first | refine blk_drewN ?_ _ | refine blk_drew ?_ | refine blk_alloc ?_ _)); exact BK253.out⟩, ⟨by repeat (first | (with_reducible first | exact HB.out | apply below_alloc | apply pw_below_drewN | apply below_drew1 | refine below_set ?_ GE249.out | refine below_set ?_ GE253.out) | exact HB.out)⟩⟩
                      case rest =>
                        clear HC46
                        try clear c1
                        try clear c2
                        try clear c2b0
                        try clear c2b1
                        try clear p2
                        try clear q2
                        try clear hx2
                        try clear qi2
                        try clear c3
                        try clear c4
                        try clear c5
                        try clear c6
                        try clear c6b0
                        try clear c6b1
                        try clear c7
                        try clear c7b0
                        try clear c7b1
                        try clear c8
                        try clear c8b0
                        try clear c8b1
                        try clear c15
                        try clear c23
                        try clear c23b0
                        try clear c23b1
                        try clear c24
                        try clear c24b0
                        try clear c24b1
                        try clear c25
                        try clear p25
                        try clear q25
                        try clear hx25
                        try clear qi25
                        try clear p26
                        try clear q26
                        try clear hx26
                        try clear qi26
                        try clear c27
                        try clear c29
                        try clear c29b0
                        try clear c29b1
                        try clear c31
                        try clear c33
                        try clear c33b0
                        try clear c33b1
                        try clear c36
                        try clear c38
                        try clear c39
                        try clear c40
                        try clear c41
                        try clear c42
                        try clear c44
                        try clear c44b0
                        try clear c44b1
                        try clear c47
                        try clear c49
                        try clear c49b0
                        try clear c49b1
                        try clear c50
                        try clear c50b0
                        try clear c50b1
                        try clear hcz28_0
                        try clear hcz28_1
                        try clear hcz28_2
                        try clear hcz28_3
                        try clear hcz28_4
                        try clear hcz28_5
                        try clear hcz28_6
                        try clear hcz28_7
                        try clear hcz28_8
                        try clear hcz37_0
                        try clear hcz37_1
                        try clear hcz37_2
                        try clear hcz37_3
                        try clear hcz37_4
                        try clear hcz37_5
                        try clear hcz37_6
                        try clear hcz37_7
                        try clear hcz37_8
                        try clear hcz40_0
                        try clear hcz40_1
                        try clear hcz40_2
                        try clear hcz40_3
                        try clear hcz40_4
                        try clear hcz40_5
                        try clear hcz40_6
                        try clear hcz40_7
                        try clear hcz40_8
                        try clear hcz43_0
                        try clear hcz43_1
                        try clear hcz43_2
                        try clear hcz43_3
                        try clear hcz43_4
                        try clear hcz43_5
                        try clear hcz43_6
                        try clear hcz43_7
                        try clear hcz43_8
                        try clear hcz48_0
                        try clear hcz48_1
                        try clear hcz48_2
                        try clear hcz48_3
                        try clear hcz48_4
                        try clear hcz48_5
                        try clear hcz48_6
                        try clear hcz48_7
                        try clear hcz48_8
                        try clear hcz4_0
                        try clear hcz4_1
                        try clear hcz4_2
                        try clear hcz4_3
                        try clear hcz4_4
                        try clear hcz4_5
                        try clear hcz4_6
                        try clear hcz4_7
                        try clear hcz4_8
                        try clear hfz28_0
                        try clear hfz28_1
                        try clear hfz28_2
                        try clear hfz28_3
                        try clear hfz28_4
                        try clear hfz28_5
                        try clear hfz28_6
                        try clear hfz28_7
                        try clear hfz28_8
                        try clear hfz37_0
                        try clear hfz37_1
                        try clear hfz37_2
                        try clear hfz37_3
                        try clear hfz37_4
                        try clear hfz37_5
                        try clear hfz37_6
                        try clear hfz37_7
                        try clear hfz37_8
                        try clear hfz40_0
                        try clear hfz40_1
                        try clear hfz40_2
                        try clear hfz40_3
                        try clear hfz40_4
                        try clear hfz40_5
                        try clear hfz40_6
                        try clear hfz40_7
                        try clear hfz40_8
                        try clear hfz43_0
                        try clear hfz43_1
                        try clear hfz43_2
                        try clear hfz43_3
                        try clear hfz43_4
                        try clear hfz43_5
                        try clear hfz43_6
                        try clear hfz43_7
                        try clear hfz43_8
                        try clear hfz48_0
                        try clear hfz48_1
                        try clear hfz48_2
                        try clear hfz48_3
                        try clear hfz48_4
                        try clear hfz48_5
                        try clear hfz48_6
                        try clear hfz48_7
                        try clear hfz48_8
                        try clear hfz4_0
                        try clear hfz4_1
                        try clear hfz4_2
                        try clear hfz4_3
                        try clear hfz4_4
                        try clear hfz4_5
                        try clear hfz4_6
                        try clear hfz4_7
                        try clear hfz4_8
                        try clear hx251_0
                        try clear hx252_0
                        try clear hx254_0
                        try clear hx263_0
                        try clear p2
                        try clear p251
                        try clear p252
                        try clear p254
                        try clear p263
                        try clear q2
                        try clear q251
                        try clear q252
                        try clear q254
                        try clear q263
                        obtain ⟨kq, x70_45, rfl, HA, HJ45, BK249, BK253, HB⟩ := hcut
                        cases kq with
                        | zero => exact absurd HA.out (by simp [stolonref05_Decode.j1])
                        | succ kj45 =>
                          have H := HA.out
                          clear HA
                          simp only [stolonref05_Decode.j1] at H
                          have HC51 := Aside0.mk H
                          clear H
                          go_upto_if 70 with (fail)
                          go_cut [] (fun wc => ∃ (kq : Nat) (x254001_50 : Int) (x254003_50 : Int), Aside0 (stolonref05_Decode.j2 kq l0 8 (rd l0 0) x254001_50 (rd l0 1) x254003_50 false 0 0 = some (r1, r2, r3, r4, r5, r6, r7, r8, r9, r10)) ∧ Aside0 (kq ≤ kj45) ∧ Aside0 (wc.heap[gb249]? = some (.cells #[.int .u8 0, .int .i64 0, .int .u8 0, .int .u32 0, .bool false, .int .u8 0, .int .u8 0, (.slice none 0 0), (.slice none 0 0)] 27 (0, 0))) ∧ Aside0 (wc.heap[gb253]? = some (.cells #[.int .u8 (rd l0 0), .int .i64 x254001_50, .int .u8 (rd l0 1), .int .u32 x254003_50, .bool false, .int .u8 0, .int .u8 0, (.slice none 0 0), (.slice none 0 0)] 27 (0, 0))) ∧ Aside0 (Below w.heap.size w wc))
                          case first =>
                            have H := HC51.out
                            clear HC51
                            by_cases c52 : x70_45 = true
                            · subst c52
                              have H1 : (stolonref05_Decode.j2 kj45 l0 8 (rd l0 0) 1 (rd l0 1) 0 false 0 0) = some (r1, r2, r3, r4, r5, r6, r7, r8, r9, r10) := by rw [if_pos rfl] at H; exact H
                              clear H
                              have H := H1
                              clear H1
                              have H' := Aside0.mk H
                              clear H
                              have hnb53 := NB253_249.out
                              have hnc53 := NB249_253.out
                              obtain ⟨hcz54_0, hcz54_1, hcz54_2, hcz54_3, hcz54_4, hcz54_5, hcz54_6, hcz54_7, hcz54_8, hfz54_0, hfz54_1, hfz54_2, hfz54_3, hfz54_4, hfz54_5, hfz54_6, hfz54_7, hfz54_8⟩ := blk9 BK253.out
                              go_wp2
                              go_meet
                              case rel => exact ⟨_, (1), (0), H', ⟨by have := HJ21.out; have := HJ45.out; first | omega | exact Nat.le_refl _⟩, ⟨by (with_reducible repeat (first | refine blk_drewN ?_ _ | refine blk_drew ?_ | refine blk_alloc ?_ _)); refine blk_far ?_ NB249_253.out _; (with_reducible repeat (first | refine blk_drewN ?_ _ | refine blk_drew ?_ | refine blk_alloc ?_ _)); refine blk_far ?_ NB249_253.out _; (with_reducible repeat (first | refine blk_drewN ?_ _ | refine blk_drew ?_ | refine blk_alloc ?_ _)); exact BK249.out⟩, ⟨by (with_reducible repeat (first | refine blk_drewN ?_ _ | refine blk_drew ?_ | refine blk_alloc ?_ _)); refine blk_put (cs := #[.int .u8 (rd l0 0), .int .i64 1, .int .u8 (rd l0 1), .int .u32 t262, .bool false, .int .u8 0, .int .u8 0, .slice none 0 0, .slice none 0 0]) ?_ 3 _ rfl; (with_reducible repeat (first | refine blk_drewN ?_ _ | refine blk_drew ?_ | refine blk_alloc ?_ _)); refine blk_put (cs := #[.int .u8 (rd l0 0), .int .i64 2, .int .u8 (rd l0 1), .int .u32 t262, .bool false, .int .u8 0, .int .u8 0, .slice none 0 0, .slice none 0 0]) ?_ 1 _ rfl; (with_reducible repeat (first | refine blk_drewN ?_ _ | refine blk_drew ?_ | refine blk_alloc ?_ _)); exact BK253.out⟩, ⟨by repeat (first | (with_reducible first | exact HB.out | apply below_alloc | apply pw_below_drewN | apply below_drew1 | refine below_set ?_ GE249.out | refine below_set ?_ GE253.out) | exact HB.out)⟩⟩
                            · replace c52 := Bool.eq_false_iff.mpr c52
                              subst c52
                              have H1 : (stolonref05_Decode.j2 kj45 l0 8 (rd l0 0) 2 (rd l0 1) t262 false 0 0) = some (r1, r2, r3, r4, r5, r6, r7, r8, r9, r10) := by rw [if_neg (show ¬ (false = true) by decide)] at H; exact H
                              clear H
                              have H := H1
                              clear H1
                              have H' := Aside0.mk H
                              clear H
                              go_wp2
                              go_meet
                              case rel => exact ⟨_, (2), (t262), H', ⟨by have := HJ21.out; have := HJ45.out; first | omega | exact Nat.le_refl _⟩, ⟨by (with_reducible repeat (first | refine blk_drewN ?_ _ | refine blk_drew ?_ | refine blk_alloc ?_ _)); exact BK249.out⟩, ⟨by (with_reducible repeat (first | refine blk_drewN ?_ _ | refine blk_drew ?_ | refine blk_alloc ?_ _)); exact BK253.out⟩, ⟨by repeat (first | (with_reducible first | exact HB.out | apply below_alloc | apply pw_below_drewN | apply below_drew1 | refine below_set ?_ GE249.out | refine below_set ?_ GE253.out) | exact HB.out)⟩⟩
                          case rest =>
                            clear HC51
                            try clear c1
                            try clear c2
                            try clear c2b0
                            try clear c2b1
                            try clear p2
                            try clear q2
                            try clear hx2
                            try clear qi2
                            try clear c3
                            try clear c4
                            try clear c5
                            try clear c6
                            try clear c6b0
                            try clear c6b1
                            try clear c7
                            try clear c7b0
                            try clear c7b1
                            try clear c8
                            try clear c8b0
                            try clear c8b1
                            try clear c15
                            try clear c23
                            try clear c23b0
                            try clear c23b1
                            try clear c24
                            try clear c24b0
                            try clear c24b1
                            try clear c25
                            try clear p25
                            try clear q25
                            try clear hx25
                            try clear qi25
                            try clear p26
                            try clear q26
                            try clear hx26
                            try clear qi26
                            try clear c27
                            try clear c29
                            try clear c29b0
                            try clear c29b1
                            try clear c31
                            try clear c33
                            try clear c33b0
                            try clear c33b1
                            try clear c36
                            try clear c38
                            try clear c39
                            try clear c40
                            try clear c41
                            try clear c42
                            try clear c44
                            try clear c44b0
                            try clear c44b1
                            try clear c47
                            try clear c49
                            try clear c49b0
                            try clear c49b1
                            try clear c50
                            try clear c50b0
                            try clear c50b1
                            try clear c52
                            try clear c53
                            try clear hcz28_0
                            try clear hcz28_1
                            try clear hcz28_2
                            try clear hcz28_3
                            try clear hcz28_4
                            try clear hcz28_5
                            try clear hcz28_6
                            try clear hcz28_7
                            try clear hcz28_8
                            try clear hcz37_0
                            try clear hcz37_1
                            try clear hcz37_2
                            try clear hcz37_3
                            try clear hcz37_4
                            try clear hcz37_5
                            try clear hcz37_6
                            try clear hcz37_7
                            try clear hcz37_8
                            try clear hcz40_0
                            try clear hcz40_1
                            try clear hcz40_2
                            try clear hcz40_3
                            try clear hcz40_4
                            try clear hcz40_5
                            try clear hcz40_6
                            try clear hcz40_7
                            try clear hcz40_8
                            try clear hcz43_0
                            try clear hcz43_1
                            try clear hcz43_2
                            try clear hcz43_3
                            try clear hcz43_4
                            try clear hcz43_5
                            try clear hcz43_6
                            try clear hcz43_7
                            try clear hcz43_8
                            try clear hcz48_0
                            try clear hcz48_1
                            try clear hcz48_2
                            try clear hcz48_3
                            try clear hcz48_4
                            try clear hcz48_5
                            try clear hcz48_6
                            try clear hcz48_7
                            try clear hcz48_8
                            try clear hcz4_0
                            try clear hcz4_1
                            try clear hcz4_2
                            try clear hcz4_3
                            try clear hcz4_4
                            try clear hcz4_5
                            try clear hcz4_6
                            try clear hcz4_7
                            try clear hcz4_8
                            try clear hcz54_0
                            try clear hcz54_1
                            try clear hcz54_2
                            try clear hcz54_3
                            try clear hcz54_4
                            try clear hcz54_5
                            try clear hcz54_6
                            try clear hcz54_7
                            try clear hcz54_8
                            try clear hfz28_0
                            try clear hfz28_1
                            try clear hfz28_2
                            try clear hfz28_3
                            try clear hfz28_4
                            try clear hfz28_5
                            try clear hfz28_6
                            try clear hfz28_7
                            try clear hfz28_8
                            try clear hfz37_0
                            try clear hfz37_1
                            try clear hfz37_2
                            try clear hfz37_3
                            try clear hfz37_4
                            try clear hfz37_5
                            try clear hfz37_6
                            try clear hfz37_7
                            try clear hfz37_8
                            try clear hfz40_0
                            try clear hfz40_1
                            try clear hfz40_2
                            try clear hfz40_3
                            try clear hfz40_4
                            try clear hfz40_5
                            try clear hfz40_6
                            try clear hfz40_7
                            try clear hfz40_8
                            try clear hfz43_0
                            try clear hfz43_1
                            try clear hfz43_2
                            try clear hfz43_3
                            try clear hfz43_4
                            try clear hfz43_5
                            try clear hfz43_6
                            try clear hfz43_7
                            try clear hfz43_8
                            try clear hfz48_0
                            try clear hfz48_1
                            try clear hfz48_2
                            try clear hfz48_3
                            try clear hfz48_4
                            try clear hfz48_5
                            try clear hfz48_6
                            try clear hfz48_7
                            try clear hfz48_8
                            try clear hfz4_0
                            try clear hfz4_1
                            try clear hfz4_2
                            try clear hfz4_3
                            try clear hfz4_4
                            try clear hfz4_5
                            try clear hfz4_6
                            try clear hfz4_7
                            try clear hfz4_8
                            try clear hfz54_0
                            try clear hfz54_1
                            try clear hfz54_2
                            try clear hfz54_3
                            try clear hfz54_4
                            try clear hfz54_5
                            try clear hfz54_6
                            try clear hfz54_7
                            try clear hfz54_8
                            try clear hx251_0
                            try clear hx252_0
                            try clear hx254_0
                            try clear hx263_0
                            try clear p2
                            try clear p25
                            try clear p251
                            try clear p252
                            try clear p254
                            try clear p26
                            try clear p263
                            try clear q2
                            try clear q25
                            try clear q251
                            try clear q252
                            try clear q254
                            try clear q26
                            try clear q263
                            obtain ⟨kq, x254001_50, x254003_50, HA, HJ50, BK249, BK253, HB⟩ := hcut
                            cases kq with
                            | zero => exact absurd HA.out (by simp [stolonref05_Decode.j2])
                            | succ kj50 =>
                              have H := HA.out
                              clear HA
                              simp only [stolonref05_Decode.j2] at H
                              by_cases c55 : (l0.length : Int) > 8
                              · rw [if_pos c55] at H
                                have c55b0 : decide (8 < (l0.length : Int)) = true := decide_eq_true c55
                                have c55b1 : decide (8 < l0.length) = true := decide_eq_true (by omega)
                                clear c55
                                by_cases c56 : (l0.length : Int) < 12
                                · rw [if_pos c56] at H
                                  have c56b0 : decide ((l0.length : Int) < 12) = true := decide_eq_true c56
                                  have c56b1 : decide (l0.length < 12) = true := decide_eq_true (by omega)
                                  clear c56
                                  simp only [Option.some.injEq, Prod.mk.injEq] at H
                                  obtain ⟨rfl, rfl, rfl, rfl, rfl, rfl, rfl, rfl, rfl, rfl⟩ := H
                                  have hnb57 := NB249_253.out
                                  have hnc57 := NB253_249.out
                                  obtain ⟨hcz58_0, hcz58_1, hcz58_2, hcz58_3, hcz58_4, hcz58_5, hcz58_6, hcz58_7, hcz58_8, hfz58_0, hfz58_1, hfz58_2, hfz58_3, hfz58_4, hfz58_5, hfz58_6, hfz58_7, hfz58_8⟩ := blk9 BK249.out
                                  go_wp2
                                  refine bodyPost_ret (results_ct rfl _ _ gb249 27 #[.int .u8 0, .int .i64 0, .int .u8 0, .int .u32 0, .bool false, .int .u8 0, .int .u8 0, .slice none 0 0, .slice none 0 0] (0, 0) _ rfl (by (with_reducible repeat (first | refine blk_drewN ?_ _ | refine blk_drew ?_ | refine blk_alloc ?_ _)); refine blk_put (cs := #[.int .u8 0, .int .i64 0, .int .u8 0, .int .u32 0, .bool false, .int .u8 0, .int .u8 0, .slice none 0 0, .slice none 0 0]) ?_ 8 _ rfl; (with_reducible repeat (first | refine blk_drewN ?_ _ | refine blk_drew ?_ | refine blk_alloc ?_ _)); refine blk_put (cs := #[.int .u8 0, .int .i64 0, .int .u8 0, .int .u32 0, .bool false, .int .u8 0, .int .u8 0, .slice none 0 0, .slice none 0 0]) ?_ 7 _ rfl; (with_reducible repeat (first | refine blk_drewN ?_ _ | refine blk_drew ?_ | refine blk_alloc ?_ _)); refine blk_put (cs := #[.int .u8 0, .int .i64 0, .int .u8 0, .int .u32 0, .bool false, .int .u8 0, .int .u8 0, .slice none 0 0, .slice none 0 0]) ?_ 6 _ rfl; (with_reducible repeat (first | refine blk_drewN ?_ _ | refine blk_drew ?_ | refine blk_alloc ?_ _)); refine blk_put (cs := #[.int .u8 0, .int .i64 0, .int .u8 0, .int .u32 0, .bool false, .int .u8 0, .int .u8 0, .slice none 0 0, .slice none 0 0]) ?_ 5 _ rfl; (with_reducible repeat (first | refine blk_drewN ?_ _ | refine blk_drew ?_ | refine blk_alloc ?_ _)); refine blk_put (cs := #[.int .u8 0, .int .i64 0, .int .u8 0, .int .u32 0, .bool false, .int .u8 0, .int .u8 0, .slice none 0 0, .slice none 0 0]) ?_ 4 _ rfl; (with_reducible repeat (first | refine blk_drewN ?_ _ | refine blk_drew ?_ | refine blk_alloc ?_ _)); refine blk_put (cs := #[.int .u8 0, .int .i64 0, .int .u8 0, .int .u32 0, .bool false, .int .u8 0, .int .u8 0, .slice none 0 0, .slice none 0 0]) ?_ 3 _ rfl; (with_reducible repeat (first | refine blk_drewN ?_ _ | refine blk_drew ?_ | refine blk_alloc ?_ _)); refine blk_put (cs := #[.int .u8 0, .int .i64 0, .int .u8 0, .int .u32 0, .bool false, .int .u8 0, .int .u8 0, .slice none 0 0, .slice none 0 0]) ?_ 2 _ rfl; (with_reducible repeat (first | refine blk_drewN ?_ _ | refine blk_drew ?_ | refine blk_alloc ?_ _)); refine blk_put (cs := #[.int .u8 0, .int .i64 0, .int .u8 0, .int .u32 0, .bool false, .int .u8 0, .int .u8 0, .slice none 0 0, .slice none 0 0]) ?_ 1 _ rfl; (with_reducible repeat (first | refine blk_drewN ?_ _ | refine blk_drew ?_ | refine blk_alloc ?_ _)); refine blk_put (cs := #[.int .u8 0, .int .i64 0, .int .u8 0, .int .u32 0, .bool false, .int .u8 0, .int .u8 0, .slice none 0 0, .slice none 0 0]) ?_ 0 _ rfl; (with_reducible repeat (first | refine blk_drewN ?_ _ | refine blk_drew ?_ | refine blk_alloc ?_ _)); exact BK249.out) Try.underlying27 rfl (by kernel_rfl)) rfl ?_
                                  exact ⟨_, _, by first | rfl | (simp [errW_none, errW_some] <;> rfl) | (simp [*, errW_none, errW_some] <;> rfl), by first | exact Kd.R_nil _ _ _ _ _ | exact Kd.N_nil _ _ _ _ _ | exact Kd.V_nil _ _ _ _ _ | exact Kd.Q_nil _ _ _ _ _ | exact Kd.S_nil _ _ _ _ _, by first | exact Kd.S_nil _ _ _ _ _ | exact Kd.N_nil _ _ _ _ _ | exact Kd.V_nil _ _ _ _ _ | exact Kd.Q_nil _ _ _ _ _ | exact Kd.R_nil _ _ _ _ _, by repeat (first | (with_reducible first | exact HB.out | apply below_alloc | apply pw_below_drewN | apply below_drew1 | refine below_set ?_ GE249.out | refine below_set ?_ GE253.out) | exact HB.out)⟩
                                · rw [if_neg c56] at H
                                  have c56b0 : decide ((l0.length : Int) < 12) = false := decide_eq_false c56
                                  have c56b1 : decide (l0.length < 12) = false := decide_eq_false (by omega)
                                  clear c56
                                  replace H := Option.bind_eq_some_iff.mp H
                                  obtain ⟨t264, A590, H⟩ := H
                                  replace H : ((stolonref05_many.f kj50 l0 12 t264).bind fun bt265 => (if bt265.2 = true then (if 8 < (l0.length : Int) then (if 9 < (l0.length : Int) then (stolonref05_Decode.j3 kj50 l0 (wrap64 (12 + (wrap64 (4 * (bt265.1.length : Int))))) (rd l0 0) 3 (rd l0 1) x254003_50 ((((Int.tdiv (rd l0 8) 8) % 256) % 2) == 1) (Int.tmod (rd l0 8) 8) (rd l0 9) bt265.1 ([] : List (S44))) else (none)) else (none)) else (some (0, 0, 0, 0, false, 0, 0, ([] : List Int), ([] : List (S44)), 3)))) = some (r1, r2, r3, r4, r5, r6, r7, r8, r9, r10) := H
                                  have A59 := Aside0.mk A590
                                  clear A590
                                  replace H := Option.bind_eq_some_iff.mp H
                                  obtain ⟨⟨t265, t266⟩, A600, H⟩ := H
                                  replace H : (if t266 = true then (if 8 < (l0.length : Int) then (if 9 < (l0.length : Int) then (stolonref05_Decode.j3 kj50 l0 (wrap64 (12 + (wrap64 (4 * (t265.length : Int))))) (rd l0 0) 3 (rd l0 1) x254003_50 ((((Int.tdiv (rd l0 8) 8) % 256) % 2) == 1) (Int.tmod (rd l0 8) 8) (rd l0 9) t265 ([] : List (S44))) else (none)) else (none)) else (some (0, 0, 0, 0, false, 0, 0, ([] : List Int), ([] : List (S44)), 3))) = some (r1, r2, r3, r4, r5, r6, r7, r8, r9, r10) := H
                                  have A60 := Aside0.mk A600
                                  clear A600
                                  by_cases c61 : t266 = true
                                  · subst c61
                                    have H1 : (if 8 < (l0.length : Int) then (if 9 < (l0.length : Int) then (stolonref05_Decode.j3 kj50 l0 (wrap64 (12 + (wrap64 (4 * (t265.length : Int))))) (rd l0 0) 3 (rd l0 1) x254003_50 ((((Int.tdiv (rd l0 8) 8) % 256) % 2) == 1) (Int.tmod (rd l0 8) 8) (rd l0 9) t265 ([] : List (S44))) else (none)) else (none)) = some (r1, r2, r3, r4, r5, r6, r7, r8, r9, r10) := by rw [if_pos rfl] at H; exact H
                                    clear H
                                    have H := H1
                                    clear H1
                                    by_cases c62 : 8 < (l0.length : Int)
                                    · rw [if_pos c62] at H
                                      have c62b0 : decide (8 < (l0.length : Int)) = true := decide_eq_true c62
                                      have c62b1 : decide (8 < l0.length) = true := decide_eq_true (by omega)
                                      clear c62
                                      by_cases c63 : 9 < (l0.length : Int)
                                      · rw [if_pos c63] at H
                                        have c63b0 : decide (9 < (l0.length : Int)) = true := decide_eq_true c63
                                        have c63b1 : decide (9 < l0.length) = true := decide_eq_true (by omega)
                                        clear c63
                                        rw [show (((Int.tdiv (rd l0 8) 8) % 256) % 2) = ((Int.tdiv (rd l0 8) 8) % 2) from Int.emod_emod_of_dvd _ (by decide)] at H
                                        have H' := Aside0.mk H
                                        clear H
                                        go_wp2_with (first | ((with_reducible refine gate_callee (f := 41) rfl ?_); refine goesL_ (some 83) rfl rfl Try.func41 (by kernel_rfl) rfl #[.slice (some ad251) l0.length c0, .int .i64 10] rfl (by (try simp only [List.map_toArray, List.map_cons, List.map_nil]); first | done | rfl | (simp only [List.length_drop, List.length_take]; rfl)) ?_; (with_reducible refine (stolonref05_two.calls _ _ l0 10 t264 _ ?side1 ?side2 A59.out).mono ?_); (case side1 => repeat (first | exact (Kd.C_below HR0.out HB.out) | (with_reducible refine Kd.C_alloc ?_ _) | (with_reducible refine Kd.C_drewN ?_ _) | (with_reducible refine Kd.C_drew ?_))); (case side2 => exact HC0.out); rintro e w' ⟨rfl, ⟨nd, rfl⟩⟩; refine ⟨_, rfl, ?_⟩; (try (rw [drewN_self wc]; generalize hq_ : World.drewN wc _ = wc; have n0_ : Aside0 (wc.heap[gb249]? = some (.cells #[.int .u8 0, .int .i64 0, .int .u8 0, .int .u32 0, .bool false, .int .u8 0, .int .u8 0, .slice none 0 0, .slice none 0 0] 27 (0, 0))) := ⟨by rw [← hq_]; exact (by (with_reducible repeat (first | refine blk_drewN ?_ _ | refine blk_drew ?_ | refine blk_alloc ?_ _)); exact BK249.out)⟩; have n1_ : Aside0 (wc.heap[gb253]? = some (.cells #[.int .u8 (rd l0 0), .int .i64 x254001_50, .int .u8 (rd l0 1), .int .u32 x254003_50, .bool false, .int .u8 0, .int .u8 0, .slice none 0 0, .slice none 0 0] 27 (0, 0))) := ⟨by rw [← hq_]; exact (by (with_reducible repeat (first | refine blk_drewN ?_ _ | refine blk_drew ?_ | refine blk_alloc ?_ _)); exact BK253.out)⟩; have n2_ : Aside0 (Below w.heap.size w wc) := ⟨by rw [← hq_]; exact (by repeat (first | (with_reducible first | exact HB.out | apply below_alloc | apply pw_below_drewN | apply below_drew1 | refine below_set ?_ GE249.out | refine below_set ?_ GE253.out) | exact HB.out))⟩; clear BK249 BK253 HB hq_; have BK249 := n0_; have BK253 := n1_; have HB := n2_; clear n0_ n1_ n2_))) | ((with_reducible refine gate_callee (f := 42) rfl ?_); refine goesL_ (some 84) rfl rfl Try.func42 (by kernel_rfl) rfl #[.slice (some ad251) l0.length c0, .int .i64 12, .int .i64 t264] rfl (by (try simp only [List.map_toArray, List.map_cons, List.map_nil]); first | done | rfl | (simp only [List.length_drop, List.length_take]; rfl)) ?_; (with_reducible refine (stolonref05_many.calls kj50 _ _ l0 12 t264 t265 true _ ?side1 ?side2 A60.out).mono ?_); (case side1 => repeat (first | exact (Kd.C_below HR0.out HB.out) | (with_reducible refine Kd.C_alloc ?_ _) | (with_reducible refine Kd.C_drewN ?_ _) | (with_reducible refine Kd.C_drew ?_))); (case side2 => exact HC0.out); rintro e w64 ⟨v267, rfl, ho0, hb⟩; refine ⟨_, rfl, ?_⟩; have n0_ := Aside0.mk (Kd.R_lower ho0 (below_size (by repeat (first | (with_reducible first | exact HB.out | apply below_alloc | apply pw_below_drewN | apply below_drew1 | refine below_set ?_ GE249.out | refine below_set ?_ GE253.out) | exact HB.out)))); have n1_ := Aside0.mk (blk_below (g := gb249) (o := .cells #[.int .u8 0, .int .i64 0, .int .u8 0, .int .u32 0, .bool false, .int .u8 0, .int .u8 0, .slice none 0 0, .slice none 0 0] 27 (0, 0)) (by (with_reducible repeat (first | refine blk_drewN ?_ _ | refine blk_drew ?_ | refine blk_alloc ?_ _)); exact BK249.out) hb); have n2_ := Aside0.mk (blk_below (g := gb253) (o := .cells #[.int .u8 (rd l0 0), .int .i64 x254001_50, .int .u8 (rd l0 1), .int .u32 x254003_50, .bool false, .int .u8 0, .int .u8 0, .slice none 0 0, .slice none 0 0] 27 (0, 0)) (by (with_reducible repeat (first | refine blk_drewN ?_ _ | refine blk_drew ?_ | refine blk_alloc ?_ _)); exact BK253.out) hb); have n3_ := Aside0.mk (below_step (by repeat (first | (with_reducible first | exact HB.out | apply below_alloc | apply pw_below_drewN | apply below_drew1 | refine below_set ?_ GE249.out | refine below_set ?_ GE253.out) | exact HB.out)) hb); clear BK249; clear BK253; clear HB; have HO268 := n0_; have BK249 := n1_; have BK253 := n2_; have HB := n3_; clear n0_ n1_ n2_ n3_; (try clear hb); (try clear hb2); (try clear hk); (try clear hi); (try clear ho0); have hnb65 := NB253_249.out; have hnc65 := NB249_253.out; obtain ⟨hcz66_0, hcz66_1, hcz66_2, hcz66_3, hcz66_4, hcz66_5, hcz66_6, hcz66_7, hcz66_8, hfz66_0, hfz66_1, hfz66_2, hfz66_3, hfz66_4, hfz66_5, hfz66_6, hfz66_7, hfz66_8⟩ := blk9 BK253.out; have p269 : 0 ≤ (8 : Int) := (by omega); have q269 : 8 < (l0.length : Int) := of_decide_eq_true (by first | (with_reducible assumption) | assumption); obtain ⟨ad269, e269, hx269_0⟩ := Kd.at_int HR0.out 8 p269 q269; obtain rfl : ad251 = ad269 := (by injection e269); (try simp only [show (8 : Int).toNat = 8 from rfl, Nat.reduceMul, Nat.reduceEqDiff, Go.Addr.add, ↓reduceIte] at hx269_0); have qi269 : (8 < l0.length) = True := eq_true (by omega); (try rw [show ((8 : Int)).toNat = 8 from rfl] at hx269_0); have hn269_0 : ad251.block ≠ gb253 := Nat.ne_of_lt (Nat.lt_of_lt_of_le (by have := World.block_lt_of_cell? _ _ hx269_0; first | rwa [add_block] at this | exact this) GW253.out); replace hx269_0 := (HB.out.cell (World.block_lt_of_cell? w _ hx269_0)).trans hx269_0; replace hx269_0 := (cell_far (p := ⟨gb253, 1, none⟩) (by first | (rw [add_block]; exact hn269_0) | (show (Addr.add _ _).block ≠ _; rw [add_block]; exact hn269_0) | exact hn269_0) (.int .i64 3)).trans hx269_0; clear hn269_0; replace p269 := eq_true p269; replace q269 := eq_true q269; have p270 : 0 ≤ (8 : Int) := (by omega); have q270 : 8 < (l0.length : Int) := of_decide_eq_true (by first | (with_reducible assumption) | assumption); obtain ⟨ad270, e270, hx270_0⟩ := Kd.at_int HR0.out 8 p270 q270; obtain rfl : ad251 = ad270 := (by injection e270); (try simp only [show (8 : Int).toNat = 8 from rfl, Nat.reduceMul, Nat.reduceEqDiff, Go.Addr.add, ↓reduceIte] at hx270_0); have qi270 : (8 < l0.length) = True := eq_true (by omega); (try rw [show ((8 : Int)).toNat = 8 from rfl] at hx270_0); have hn270_0 : ad251.block ≠ gb253 := Nat.ne_of_lt (Nat.lt_of_lt_of_le (by have := World.block_lt_of_cell? _ _ hx270_0; first | rwa [add_block] at this | exact this) GW253.out); have hn270_1 : ad251.block ≠ gb253 := Nat.ne_of_lt (Nat.lt_of_lt_of_le (by have := World.block_lt_of_cell? _ _ hx270_0; first | rwa [add_block] at this | exact this) GW253.out); replace hx270_0 := (HB.out.cell (World.block_lt_of_cell? w _ hx270_0)).trans hx270_0; replace hx270_0 := (cell_far (p := ⟨gb253, 1, none⟩) (by first | (rw [add_block]; exact hn270_0) | (show (Addr.add _ _).block ≠ _; rw [add_block]; exact hn270_0) | exact hn270_0) (.int .i64 3)).trans hx270_0; replace hx270_0 := (cell_far (p := ⟨gb253, 5, none⟩) (by first | (rw [add_block]; exact hn270_1) | (show (Addr.add _ _).block ≠ _; rw [add_block]; exact hn270_1) | exact hn270_1) (.int .u8 (Int.tmod (rd l0 8) 8))).trans hx270_0; clear hn270_0; clear hn270_1; replace p270 := eq_true p270; replace q270 := eq_true q270; have p271 : 0 ≤ (9 : Int) := (by omega); have q271 : 9 < (l0.length : Int) := of_decide_eq_true (by first | (with_reducible assumption) | assumption); obtain ⟨ad271, e271, hx271_0⟩ := Kd.at_int HR0.out 9 p271 q271; obtain rfl : ad251 = ad271 := (by injection e271); (try simp only [show (9 : Int).toNat = 9 from rfl, Nat.reduceMul, Nat.reduceEqDiff, Go.Addr.add, ↓reduceIte] at hx271_0); have qi271 : (9 < l0.length) = True := eq_true (by omega); (try rw [show ((9 : Int)).toNat = 9 from rfl] at hx271_0); have hn271_0 : ad251.block ≠ gb253 := Nat.ne_of_lt (Nat.lt_of_lt_of_le (by have := World.block_lt_of_cell? _ _ hx271_0; first | rwa [add_block] at this | exact this) GW253.out); have hn271_1 : ad251.block ≠ gb253 := Nat.ne_of_lt (Nat.lt_of_lt_of_le (by have := World.block_lt_of_cell? _ _ hx271_0; first | rwa [add_block] at this | exact this) GW253.out); have hn271_2 : ad251.block ≠ gb253 := Nat.ne_of_lt (Nat.lt_of_lt_of_le (by have := World.block_lt_of_cell? _ _ hx271_0; first | rwa [add_block] at this | exact this) GW253.out); replace hx271_0 := (HB.out.cell (World.block_lt_of_cell? w _ hx271_0)).trans hx271_0; replace hx271_0 := (cell_far (p := ⟨gb253, 1, none⟩) (by first | (rw [add_block]; exact hn271_0) | (show (Addr.add _ _).block ≠ _; rw [add_block]; exact hn271_0) | exact hn271_0) (.int .i64 3)).trans hx271_0; replace hx271_0 := (cell_far (p := ⟨gb253, 5, none⟩) (by first | (rw [add_block]; exact hn271_1) | (show (Addr.add _ _).block ≠ _; rw [add_block]; exact hn271_1) | exact hn271_1) (.int .u8 (Int.tmod (rd l0 8) 8))).trans hx271_0; replace hx271_0 := (cell_far (p := ⟨gb253, 4, none⟩) (by first | (rw [add_block]; exact hn271_2) | (show (Addr.add _ _).block ≠ _; rw [add_block]; exact hn271_2) | exact hn271_2) (.bool (((Int.tdiv (rd l0 8) 8) % 2) == 1))).trans hx271_0; clear hn271_0; clear hn271_1; clear hn271_2; replace p271 := eq_true p271; replace q271 := eq_true q271; obtain ⟨Ao67, co67, eo67⟩ := Kd.R_slice HO268.out; subst eo67))
                                        go_meet
                                        case rel => exact ⟨_, (wrap64 (12 + (wrap64 (4 * (t265.length : Int))))), (0), (0), (0), (0), (false), (0), (0), (3), (x254003_50), ((((Int.tdiv (rd l0 8) 8) % 2) == 1)), (Int.tmod (rd l0 8) 8), (rd l0 9), (t265), (([] : List (S44))), (.slice Ao67 t265.length co67), (.slice none 0 0), (by first | rfl | (simp; done) | (simp [*]; done)), H', ⟨by have := HJ21.out; have := HJ45.out; have := HJ50.out; first | omega | exact Nat.le_refl _⟩, ⟨by (with_reducible repeat (first | apply Kd.R_alloc | apply Kd.R_drewN | apply Kd.R_drew)); exact Kd.R_mono (Kd.R_far (p := ⟨gb253, 7, none⟩) (Kd.R_far (p := ⟨gb253, 6, none⟩) (Kd.R_far (p := ⟨gb253, 4, none⟩) (Kd.R_far (p := ⟨gb253, 5, none⟩) (Kd.R_far (p := ⟨gb253, 1, none⟩) (Kd.R_types HO268.out BK253.out (by decide)) (fun _ hk => hk.2) (.int .i64 3)) (fun _ hk => hk.2) (.int .u8 (Int.tmod (rd l0 8) 8))) (fun _ hk => hk.2) (.bool (((Int.tdiv (rd l0 8) 8) % 2) == 1))) (fun _ hk => hk.2) (.int .u8 (rd l0 9))) (fun _ hk => hk.2) (.slice Ao67 t265.length co67)) (fun _ hk => trivial)⟩, ⟨by first | exact Kd.S_nil _ _ _ _ _ | exact Kd.N_nil _ _ _ _ _ | exact Kd.V_nil _ _ _ _ _ | exact Kd.Q_nil _ _ _ _ _ | exact Kd.R_nil _ _ _ _ _⟩, ⟨by (with_reducible repeat (first | refine blk_drewN ?_ _ | refine blk_drew ?_ | refine blk_alloc ?_ _)); refine blk_far ?_ NB249_253.out _; (with_reducible repeat (first | refine blk_drewN ?_ _ | refine blk_drew ?_ | refine blk_alloc ?_ _)); refine blk_far ?_ NB249_253.out _; (with_reducible repeat (first | refine blk_drewN ?_ _ | refine blk_drew ?_ | refine blk_alloc ?_ _)); refine blk_far ?_ NB249_253.out _; (with_reducible repeat (first | refine blk_drewN ?_ _ | refine blk_drew ?_ | refine blk_alloc ?_ _)); refine blk_far ?_ NB249_253.out _; (with_reducible repeat (first | refine blk_drewN ?_ _ | refine blk_drew ?_ | refine blk_alloc ?_ _)); refine blk_far ?_ NB249_253.out _; (with_reducible repeat (first | refine blk_drewN ?_ _ | refine blk_drew ?_ | refine blk_alloc ?_ _)); exact BK249.out⟩, ⟨by (with_reducible repeat (first | refine blk_drewN ?_ _ | refine blk_drew ?_ | refine blk_alloc ?_ _)); refine blk_put (cs := #[.int .u8 (rd l0 0), .int .i64 3, .int .u8 (rd l0 1), .int .u32 x254003_50, .bool (((Int.tdiv (rd l0 8) 8) % 2) == 1), .int .u8 (Int.tmod (rd l0 8) 8), .int .u8 (rd l0 9), .slice none 0 0, .slice none 0 0]) ?_ 7 _ rfl; (with_reducible repeat (first | refine blk_drewN ?_ _ | refine blk_drew ?_ | refine blk_alloc ?_ _)); refine blk_put (cs := #[.int .u8 (rd l0 0), .int .i64 3, .int .u8 (rd l0 1), .int .u32 x254003_50, .bool (((Int.tdiv (rd l0 8) 8) % 2) == 1), .int .u8 (Int.tmod (rd l0 8) 8), .int .u8 0, .slice none 0 0, .slice none 0 0]) ?_ 6 _ rfl; (with_reducible repeat (first | refine blk_drewN ?_ _ | refine blk_drew ?_ | refine blk_alloc ?_ _)); refine blk_put (cs := #[.int .u8 (rd l0 0), .int .i64 3, .int .u8 (rd l0 1), .int .u32 x254003_50, .bool false, .int .u8 (Int.tmod (rd l0 8) 8), .int .u8 0, .slice none 0 0, .slice none 0 0]) ?_ 4 _ rfl; (with_reducible repeat (first | refine blk_drewN ?_ _ | refine blk_drew ?_ | refine blk_alloc ?_ _)); refine blk_put (cs := #[.int .u8 (rd l0 0), .int .i64 3, .int .u8 (rd l0 1), .int .u32 x254003_50, .bool false, .int .u8 0, .int .u8 0, .slice none 0 0, .slice none 0 0]) ?_ 5 _ rfl; (with_reducible repeat (first | refine blk_drewN ?_ _ | refine blk_drew ?_ | refine blk_alloc ?_ _)); refine blk_put (cs := #[.int .u8 (rd l0 0), .int .i64 x254001_50, .int .u8 (rd l0 1), .int .u32 x254003_50, .bool false, .int .u8 0, .int .u8 0, .slice none 0 0, .slice none 0 0]) ?_ 1 _ rfl; (with_reducible repeat (first | refine blk_drewN ?_ _ | refine blk_drew ?_ | refine blk_alloc ?_ _)); exact BK253.out⟩, ⟨by repeat (first | (with_reducible first | exact HB.out | apply below_alloc | apply pw_below_drewN | apply below_drew1 | refine below_set ?_ GE249.out | refine below_set ?_ GE253.out) | exact HB.out)⟩⟩
                                      · rw [if_neg c63] at H
                                        exact absurd H (by simp)
                                    · rw [if_neg c62] at H
                                      exact absurd H (by simp)
                                  · replace c61 := Bool.eq_false_iff.mpr c61
                                    subst c61
                                    have H1 : (some (0, 0, 0, 0, false, 0, 0, ([] : List Int), ([] : List (S44)), 3)) = some (r1, r2, r3, r4, r5, r6, r7, r8, r9, r10) := by rw [if_neg (show ¬ (false = true) by decide)] at H; exact H
                                    clear H
                                    have H := H1
                                    clear H1
                                    simp only [Option.some.injEq, Prod.mk.injEq] at H
                                    obtain ⟨rfl, rfl, rfl, rfl, rfl, rfl, rfl, rfl, rfl, rfl⟩ := H
                                    go_wp2_with (first | ((with_reducible refine gate_callee (f := 41) rfl ?_); refine goesL_ (some 83) rfl rfl Try.func41 (by kernel_rfl) rfl #[.slice (some ad251) l0.length c0, .int .i64 10] rfl (by (try simp only [List.map_toArray, List.map_cons, List.map_nil]); first | done | rfl | (simp only [List.length_drop, List.length_take]; rfl)) ?_; (with_reducible refine (stolonref05_two.calls _ _ l0 10 t264 _ ?side1 ?side2 A59.out).mono ?_); (case side1 => repeat (first | exact (Kd.C_below HR0.out HB.out) | (with_reducible refine Kd.C_alloc ?_ _) | (with_reducible refine Kd.C_drewN ?_ _) | (with_reducible refine Kd.C_drew ?_))); (case side2 => exact HC0.out); rintro e w' ⟨rfl, ⟨nd, rfl⟩⟩; refine ⟨_, rfl, ?_⟩; (try (rw [drewN_self wc]; generalize hq_ : World.drewN wc _ = wc; have n0_ : Aside0 (wc.heap[gb249]? = some (.cells #[.int .u8 0, .int .i64 0, .int .u8 0, .int .u32 0, .bool false, .int .u8 0, .int .u8 0, .slice none 0 0, .slice none 0 0] 27 (0, 0))) := ⟨by rw [← hq_]; exact (by (with_reducible repeat (first | refine blk_drewN ?_ _ | refine blk_drew ?_ | refine blk_alloc ?_ _)); exact BK249.out)⟩; have n1_ : Aside0 (wc.heap[gb253]? = some (.cells #[.int .u8 (rd l0 0), .int .i64 x254001_50, .int .u8 (rd l0 1), .int .u32 x254003_50, .bool false, .int .u8 0, .int .u8 0, .slice none 0 0, .slice none 0 0] 27 (0, 0))) := ⟨by rw [← hq_]; exact (by (with_reducible repeat (first | refine blk_drewN ?_ _ | refine blk_drew ?_ | refine blk_alloc ?_ _)); exact BK253.out)⟩; have n2_ : Aside0 (Below w.heap.size w wc) := ⟨by rw [← hq_]; exact (by repeat (first | (with_reducible first | exact HB.out | apply below_alloc | apply pw_below_drewN | apply below_drew1 | refine below_set ?_ GE249.out | refine below_set ?_ GE253.out) | exact HB.out))⟩; clear BK249 BK253 HB hq_; have BK249 := n0_; have BK253 := n1_; have HB := n2_; clear n0_ n1_ n2_))) | ((with_reducible refine gate_callee (f := 42) rfl ?_); refine goesL_ (some 84) rfl rfl Try.func42 (by kernel_rfl) rfl #[.slice (some ad251) l0.length c0, .int .i64 12, .int .i64 t264] rfl (by (try simp only [List.map_toArray, List.map_cons, List.map_nil]); first | done | rfl | (simp only [List.length_drop, List.length_take]; rfl)) ?_; (with_reducible refine (stolonref05_many.calls kj50 _ _ l0 12 t264 t265 false _ ?side1 ?side2 A60.out).mono ?_); (case side1 => repeat (first | exact (Kd.C_below HR0.out HB.out) | (with_reducible refine Kd.C_alloc ?_ _) | (with_reducible refine Kd.C_drewN ?_ _) | (with_reducible refine Kd.C_drew ?_))); (case side2 => exact HC0.out); rintro e w68 ⟨v267, rfl, ho0, hb⟩; refine ⟨_, rfl, ?_⟩; have n0_ := Aside0.mk (Kd.R_lower ho0 (below_size (by repeat (first | (with_reducible first | exact HB.out | apply below_alloc | apply pw_below_drewN | apply below_drew1 | refine below_set ?_ GE249.out | refine below_set ?_ GE253.out) | exact HB.out)))); have n1_ := Aside0.mk (blk_below (g := gb249) (o := .cells #[.int .u8 0, .int .i64 0, .int .u8 0, .int .u32 0, .bool false, .int .u8 0, .int .u8 0, .slice none 0 0, .slice none 0 0] 27 (0, 0)) (by (with_reducible repeat (first | refine blk_drewN ?_ _ | refine blk_drew ?_ | refine blk_alloc ?_ _)); exact BK249.out) hb); have n2_ := Aside0.mk (blk_below (g := gb253) (o := .cells #[.int .u8 (rd l0 0), .int .i64 x254001_50, .int .u8 (rd l0 1), .int .u32 x254003_50, .bool false, .int .u8 0, .int .u8 0, .slice none 0 0, .slice none 0 0] 27 (0, 0)) (by (with_reducible repeat (first | refine blk_drewN ?_ _ | refine blk_drew ?_ | refine blk_alloc ?_ _)); exact BK253.out) hb); have n3_ := Aside0.mk (below_step (by repeat (first | (with_reducible first | exact HB.out | apply below_alloc | apply pw_below_drewN | apply below_drew1 | refine below_set ?_ GE249.out | refine below_set ?_ GE253.out) | exact HB.out)) hb); clear BK249; clear BK253; clear HB; have HO268 := n0_; have BK249 := n1_; have BK253 := n2_; have HB := n3_; clear n0_ n1_ n2_ n3_; (try clear hb); (try clear hb2); (try clear hk); (try clear hi); (try clear ho0); have hnb69 := NB249_253.out; have hnc69 := NB253_249.out; obtain ⟨hcz70_0, hcz70_1, hcz70_2, hcz70_3, hcz70_4, hcz70_5, hcz70_6, hcz70_7, hcz70_8, hfz70_0, hfz70_1, hfz70_2, hfz70_3, hfz70_4, hfz70_5, hfz70_6, hfz70_7, hfz70_8⟩ := blk9 BK249.out))
                                    refine bodyPost_ret (results_ct rfl _ _ gb249 27 #[.int .u8 0, .int .i64 0, .int .u8 0, .int .u32 0, .bool false, .int .u8 0, .int .u8 0, .slice none 0 0, .slice none 0 0] (0, 0) _ rfl (by (with_reducible repeat (first | refine blk_drewN ?_ _ | refine blk_drew ?_ | refine blk_alloc ?_ _)); refine blk_put (cs := #[.int .u8 0, .int .i64 0, .int .u8 0, .int .u32 0, .bool false, .int .u8 0, .int .u8 0, .slice none 0 0, .slice none 0 0]) ?_ 8 _ rfl; (with_reducible repeat (first | refine blk_drewN ?_ _ | refine blk_drew ?_ | refine blk_alloc ?_ _)); refine blk_put (cs := #[.int .u8 0, .int .i64 0, .int .u8 0, .int .u32 0, .bool false, .int .u8 0, .int .u8 0, .slice none 0 0, .slice none 0 0]) ?_ 7 _ rfl; (with_reducible repeat (first | refine blk_drewN ?_ _ | refine blk_drew ?_ | refine blk_alloc ?_ _)); refine blk_put (cs := #[.int .u8 0, .int .i64 0, .int .u8 0, .int .u32 0, .bool false, .int .u8 0, .int .u8 0, .slice none 0 0, .slice none 0 0]) ?_ 6 _ rfl; (with_reducible repeat (first | refine blk_drewN ?_ _ | refine blk_drew ?_ | refine blk_alloc ?_ _)); refine blk_put (cs := #[.int .u8 0, .int .i64 0, .int .u8 0, .int .u32 0, .bool false, .int .u8 0, .int .u8 0, .slice none 0 0, .slice none 0 0]) ?_ 5 _ rfl; (with_reducible repeat (first | refine blk_drewN ?_ _ | refine blk_drew ?_ | refine blk_alloc ?_ _)); refine blk_put (cs := #[.int .u8 0, .int .i64 0, .int .u8 0, .int .u32 0, .bool false, .int .u8 0, .int .u8 0, .slice none 0 0, .slice none 0 0]) ?_ 4 _ rfl; (with_reducible repeat (first | refine blk_drewN ?_ _ | refine blk_drew ?_ | refine blk_alloc ?_ _)); refine blk_put (cs := #[.int .u8 0, .int .i64 0, .int .u8 0, .int .u32 0, .bool false, .int .u8 0, .int .u8 0, .slice none 0 0, .slice none 0 0]) ?_ 3 _ rfl; (with_reducible repeat (first | refine blk_drewN ?_ _ | refine blk_drew ?_ | refine blk_alloc ?_ _)); refine blk_put (cs := #[.int .u8 0, .int .i64 0, .int .u8 0, .int .u32 0, .bool false, .int .u8 0, .int .u8 0, .slice none 0 0, .slice none 0 0]) ?_ 2 _ rfl; (with_reducible repeat (first | refine blk_drewN ?_ _ | refine blk_drew ?_ | refine blk_alloc ?_ _)); refine blk_put (cs := #[.int .u8 0, .int .i64 0, .int .u8 0, .int .u32 0, .bool false, .int .u8 0, .int .u8 0, .slice none 0 0, .slice none 0 0]) ?_ 1 _ rfl; (with_reducible repeat (first | refine blk_drewN ?_ _ | refine blk_drew ?_ | refine blk_alloc ?_ _)); refine blk_put (cs := #[.int .u8 0, .int .i64 0, .int .u8 0, .int .u32 0, .bool false, .int .u8 0, .int .u8 0, .slice none 0 0, .slice none 0 0]) ?_ 0 _ rfl; (with_reducible repeat (first | refine blk_drewN ?_ _ | refine blk_drew ?_ | refine blk_alloc ?_ _)); exact BK249.out) Try.underlying27 rfl (by kernel_rfl)) rfl ?_
                                    exact ⟨_, _, by first | rfl | (simp [errW_none, errW_some] <;> rfl) | (simp [*, errW_none, errW_some] <;> rfl), by first | exact Kd.R_nil _ _ _ _ _ | exact Kd.N_nil _ _ _ _ _ | exact Kd.V_nil _ _ _ _ _ | exact Kd.Q_nil _ _ _ _ _ | exact Kd.S_nil _ _ _ _ _, by first | exact Kd.S_nil _ _ _ _ _ | exact Kd.N_nil _ _ _ _ _ | exact Kd.V_nil _ _ _ _ _ | exact Kd.Q_nil _ _ _ _ _ | exact Kd.R_nil _ _ _ _ _, by repeat (first | (with_reducible first | exact HB.out | apply below_alloc | apply pw_below_drewN | apply below_drew1 | refine below_set ?_ GE249.out | refine below_set ?_ GE253.out) | exact HB.out)⟩
                              · rw [if_neg c55] at H
                                have c55b0 : decide (8 < (l0.length : Int)) = false := decide_eq_false c55
                                have c55b1 : decide (8 < l0.length) = false := decide_eq_false (by omega)
                                clear c55
                                have H' := Aside0.mk H
                                clear H
                                go_wp2
                                go_meet
                                case rel => exact ⟨_, (8), (0), (0), (0), (0), (false), (0), (0), (x254001_50), (x254003_50), (false), (0), (0), (([] : List Int)), (([] : List (S44))), (.slice none 0 0), (.slice none 0 0), (by first | rfl | (simp; done) | (simp [*]; done)), H', ⟨by have := HJ21.out; have := HJ45.out; have := HJ50.out; first | omega | exact Nat.le_refl _⟩, ⟨by first | exact Kd.R_nil _ _ _ _ _ | exact Kd.N_nil _ _ _ _ _ | exact Kd.V_nil _ _ _ _ _ | exact Kd.Q_nil _ _ _ _ _ | exact Kd.S_nil _ _ _ _ _⟩, ⟨by first | exact Kd.S_nil _ _ _ _ _ | exact Kd.N_nil _ _ _ _ _ | exact Kd.V_nil _ _ _ _ _ | exact Kd.Q_nil _ _ _ _ _ | exact Kd.R_nil _ _ _ _ _⟩, ⟨by (with_reducible repeat (first | refine blk_drewN ?_ _ | refine blk_drew ?_ | refine blk_alloc ?_ _)); exact BK249.out⟩, ⟨by (with_reducible repeat (first | refine blk_drewN ?_ _ | refine blk_drew ?_ | refine blk_alloc ?_ _)); exact BK253.out⟩, ⟨by repeat (first | (with_reducible first | exact HB.out | apply below_alloc | apply pw_below_drewN | apply below_drew1 | refine below_set ?_ GE249.out | refine below_set ?_ GE253.out) | exact HB.out)⟩⟩
                    · rw [if_neg c44] at H
                      have c44b0 : ((rd l0 0) == 17) = false := beq_eq_false_iff_ne.mpr c44
                      have c44b1 : ((rd l0 0) != 17) = true := bne_iff_ne.mpr c44
                      simp only [Option.some.injEq, Prod.mk.injEq] at H
                      obtain ⟨rfl, rfl, rfl, rfl, rfl, rfl, rfl, rfl, rfl, rfl⟩ := H
                      have hnb71 := NB249_253.out
                      have hnc71 := NB253_249.out
                      obtain ⟨hcz72_0, hcz72_1, hcz72_2, hcz72_3, hcz72_4, hcz72_5, hcz72_6, hcz72_7, hcz72_8, hfz72_0, hfz72_1, hfz72_2, hfz72_3, hfz72_4, hfz72_5, hfz72_6, hfz72_7, hfz72_8⟩ := blk9 BK249.out
                      go_wp2
                      refine bodyPost_ret (results_ct rfl _ _ gb249 27 #[.int .u8 0, .int .i64 0, .int .u8 0, .int .u32 0, .bool false, .int .u8 0, .int .u8 0, .slice none 0 0, .slice none 0 0] (0, 0) _ rfl (by (with_reducible repeat (first | refine blk_drewN ?_ _ | refine blk_drew ?_ | refine blk_alloc ?_ _)); refine blk_put (cs := #[.int .u8 0, .int .i64 0, .int .u8 0, .int .u32 0, .bool false, .int .u8 0, .int .u8 0, .slice none 0 0, .slice none 0 0]) ?_ 8 _ rfl; (with_reducible repeat (first | refine blk_drewN ?_ _ | refine blk_drew ?_ | refine blk_alloc ?_ _)); refine blk_put (cs := #[.int .u8 0, .int .i64 0, .int .u8 0, .int .u32 0, .bool false, .int .u8 0, .int .u8 0, .slice none 0 0, .slice none 0 0]) ?_ 7 _ rfl; (with_reducible repeat (first | refine blk_drewN ?_ _ | refine blk_drew ?_ | refine blk_alloc ?_ _)); refine blk_put (cs := #[.int .u8 0, .int .i64 0, .int .u8 0, .int .u32 0, .bool false, .int .u8 0, .int .u8 0, .slice none 0 0, .slice none 0 0]) ?_ 6 _ rfl; (with_reducible repeat (first | refine blk_drewN ?_ _ | refine blk_drew ?_ | refine blk_alloc ?_ _)); refine blk_put (cs := #[.int .u8 0, .int .i64 0, .int .u8 0, .int .u32 0, .bool false, .int .u8 0, .int .u8 0, .slice none 0 0, .slice none 0 0]) ?_ 5 _ rfl; (with_reducible repeat (first | refine blk_drewN ?_ _ | refine blk_drew ?_ | refine blk_alloc ?_ _)); refine blk_put (cs := #[.int .u8 0, .int .i64 0, .int .u8 0, .int .u32 0, .bool false, .int .u8 0, .int .u8 0, .slice none 0 0, .slice none 0 0]) ?_ 4 _ rfl; (with_reducible repeat (first | refine blk_drewN ?_ _ | refine blk_drew ?_ | refine blk_alloc ?_ _)); refine blk_put (cs := #[.int .u8 0, .int .i64 0, .int .u8 0, .int .u32 0, .bool false, .int .u8 0, .int .u8 0, .slice none 0 0, .slice none 0 0]) ?_ 3 _ rfl; (with_reducible repeat (first | refine blk_drewN ?_ _ | refine blk_drew ?_ | refine blk_alloc ?_ _)); refine blk_put (cs := #[.int .u8 0, .int .i64 0, .int .u8 0, .int .u32 0, .bool false, .int .u8 0, .int .u8 0, .slice none 0 0, .slice none 0 0]) ?_ 2 _ rfl; (with_reducible repeat (first | refine blk_drewN ?_ _ | refine blk_drew ?_ | refine blk_alloc ?_ _)); refine blk_put (cs := #[.int .u8 0, .int .i64 0, .int .u8 0, .int .u32 0, .bool false, .int .u8 0, .int .u8 0, .slice none 0 0, .slice none 0 0]) ?_ 1 _ rfl; (with_reducible repeat (first | refine blk_drewN ?_ _ | refine blk_drew ?_ | refine blk_alloc ?_ _)); refine blk_put (cs := #[.int .u8 0, .int .i64 0, .int .u8 0, .int .u32 0, .bool false, .int .u8 0, .int .u8 0, .slice none 0 0, .slice none 0 0]) ?_ 0 _ rfl; (with_reducible repeat (first | refine blk_drewN ?_ _ | refine blk_drew ?_ | refine blk_alloc ?_ _)); exact BK249.out) Try.underlying27 rfl (by kernel_rfl)) rfl ?_
                      exact ⟨_, _, by first | rfl | (simp [errW_none, errW_some] <;> rfl) | (simp [*, errW_none, errW_some] <;> rfl), by first | exact Kd.R_nil _ _ _ _ _ | exact Kd.N_nil _ _ _ _ _ | exact Kd.V_nil _ _ _ _ _ | exact Kd.Q_nil _ _ _ _ _ | exact Kd.S_nil _ _ _ _ _, by first | exact Kd.S_nil _ _ _ _ _ | exact Kd.N_nil _ _ _ _ _ | exact Kd.V_nil _ _ _ _ _ | exact Kd.Q_nil _ _ _ _ _ | exact Kd.R_nil _ _ _ _ _, by repeat (first | (with_reducible first | exact HB.out | apply below_alloc | apply pw_below_drewN | apply below_drew1 | refine below_set ?_ GE249.out | refine below_set ?_ GE253.out) | exact HB.out)⟩
          case rest =>
            clear HC9
            try clear c1
            try clear c2
            try clear c2b0
            try clear c2b1
            try clear p2
            try clear q2
            try clear hx2
            try clear qi2
            try clear c3
            try clear c4
            try clear c5
            try clear c6
            try clear c6b0
            try clear c6b1
            try clear p6
            try clear c7
            try clear c7b0
            try clear c7b1
            try clear c8
            try clear c8b0
            try clear c8b1
            try clear c15
            try clear c23
            try clear c23b0
            try clear c23b1
            try clear c24
            try clear c24b0
            try clear c24b1
            try clear c25
            try clear p25
            try clear q25
            try clear hx25
            try clear qi25
            try clear p26
            try clear q26
            try clear hx26
            try clear qi26
            try clear c27
            try clear p27
            try clear q27
            try clear hx27
            try clear qi27
            try clear c29
            try clear c29b0
            try clear c29b1
            try clear c31
            try clear c33
            try clear c33b0
            try clear c33b1
            try clear c36
            try clear c38
            try clear c39
            try clear c40
            try clear c41
            try clear c42
            try clear c44
            try clear c44b0
            try clear c44b1
            try clear c47
            try clear c49
            try clear c49b0
            try clear c49b1
            try clear c50
            try clear c50b0
            try clear c50b1
            try clear c52
            try clear c53
            try clear c55
            try clear c55b0
            try clear c55b1
            try clear c56
            try clear c56b0
            try clear c56b1
            try clear c57
            try clear c61
            try clear c62
            try clear c62b0
            try clear c62b1
            try clear c63
            try clear c63b0
            try clear c63b1
            try clear p64
            try clear c65
            try clear c69
            try clear c71
            try clear hcz28_0
            try clear hcz28_1
            try clear hcz28_2
            try clear hcz28_3
            try clear hcz28_4
            try clear hcz28_5
            try clear hcz28_6
            try clear hcz28_7
            try clear hcz28_8
            try clear hcz37_0
            try clear hcz37_1
            try clear hcz37_2
            try clear hcz37_3
            try clear hcz37_4
            try clear hcz37_5
            try clear hcz37_6
            try clear hcz37_7
            try clear hcz37_8
            try clear hcz40_0
            try clear hcz40_1
            try clear hcz40_2
            try clear hcz40_3
            try clear hcz40_4
            try clear hcz40_5
            try clear hcz40_6
            try clear hcz40_7
            try clear hcz40_8
            try clear hcz43_0
            try clear hcz43_1
            try clear hcz43_2
            try clear hcz43_3
            try clear hcz43_4
            try clear hcz43_5
            try clear hcz43_6
            try clear hcz43_7
            try clear hcz43_8
            try clear hcz48_0
            try clear hcz48_1
            try clear hcz48_2
            try clear hcz48_3
            try clear hcz48_4
            try clear hcz48_5
            try clear hcz48_6
            try clear hcz48_7
            try clear hcz48_8
            try clear hcz4_0
            try clear hcz4_1
            try clear hcz4_2
            try clear hcz4_3
            try clear hcz4_4
            try clear hcz4_5
            try clear hcz4_6
            try clear hcz4_7
            try clear hcz4_8
            try clear hcz54_0
            try clear hcz54_1
            try clear hcz54_2
            try clear hcz54_3
            try clear hcz54_4
            try clear hcz54_5
            try clear hcz54_6
            try clear hcz54_7
            try clear hcz54_8
            try clear hcz58_0
            try clear hcz58_1
            try clear hcz58_2
            try clear hcz58_3
            try clear hcz58_4
            try clear hcz58_5
            try clear hcz58_6
            try clear hcz58_7
            try clear hcz58_8
            try clear hcz66_0
            try clear hcz66_1
            try clear hcz66_2
            try clear hcz66_3
            try clear hcz66_4
            try clear hcz66_5
            try clear hcz66_6
            try clear hcz66_7
            try clear hcz66_8
            try clear hcz70_0
            try clear hcz70_1
            try clear hcz70_2
            try clear hcz70_3
            try clear hcz70_4
            try clear hcz70_5
            try clear hcz70_6
            try clear hcz70_7
            try clear hcz70_8
            try clear hcz72_0
            try clear hcz72_1
            try clear hcz72_2
            try clear hcz72_3
            try clear hcz72_4
            try clear hcz72_5
            try clear hcz72_6
            try clear hcz72_7
            try clear hcz72_8
            try clear hfz28_0
            try clear hfz28_1
            try clear hfz28_2
            try clear hfz28_3
            try clear hfz28_4
            try clear hfz28_5
            try clear hfz28_6
            try clear hfz28_7
            try clear hfz28_8
            try clear hfz37_0
            try clear hfz37_1
            try clear hfz37_2
            try clear hfz37_3
            try clear hfz37_4
            try clear hfz37_5
            try clear hfz37_6
            try clear hfz37_7
            try clear hfz37_8
            try clear hfz40_0
            try clear hfz40_1
            try clear hfz40_2
            try clear hfz40_3
            try clear hfz40_4
            try clear hfz40_5
            try clear hfz40_6
            try clear hfz40_7
            try clear hfz40_8
            try clear hfz43_0
            try clear hfz43_1
            try clear hfz43_2
            try clear hfz43_3
            try clear hfz43_4
            try clear hfz43_5
            try clear hfz43_6
            try clear hfz43_7
            try clear hfz43_8
            try clear hfz48_0
            try clear hfz48_1
            try clear hfz48_2
            try clear hfz48_3
            try clear hfz48_4
            try clear hfz48_5
            try clear hfz48_6
            try clear hfz48_7
            try clear hfz48_8
            try clear hfz4_0
            try clear hfz4_1
            try clear hfz4_2
            try clear hfz4_3
            try clear hfz4_4
            try clear hfz4_5
            try clear hfz4_6
            try clear hfz4_7
            try clear hfz4_8
            try clear hfz54_0
            try clear hfz54_1
            try clear hfz54_2
            try clear hfz54_3
            try clear hfz54_4
            try clear hfz54_5
            try clear hfz54_6
            try clear hfz54_7
            try clear hfz54_8
            try clear hfz58_0
            try clear hfz58_1
            try clear hfz58_2
            try clear hfz58_3
            try clear hfz58_4
            try clear hfz58_5
            try clear hfz58_6
            try clear hfz58_7
            try clear hfz58_8
            try clear hfz66_0
            try clear hfz66_1
            try clear hfz66_2
            try clear hfz66_3
            try clear hfz66_4
            try clear hfz66_5
            try clear hfz66_6
            try clear hfz66_7
            try clear hfz66_8
            try clear hfz70_0
            try clear hfz70_1
            try clear hfz70_2
            try clear hfz70_3
            try clear hfz70_4
            try clear hfz70_5
            try clear hfz70_6
            try clear hfz70_7
            try clear hfz70_8
            try clear hfz72_0
            try clear hfz72_1
            try clear hfz72_2
            try clear hfz72_3
            try clear hfz72_4
            try clear hfz72_5
            try clear hfz72_6
            try clear hfz72_7
            try clear hfz72_8
            try clear hx251_0
            try clear hx252_0
            try clear hx254_0
            try clear hx263_0
            try clear hx269_0
            try clear hx270_0
            try clear hx271_0
            try clear p2
            try clear p25
            try clear p251
            try clear p252
            try clear p254
            try clear p26
            try clear p263
            try clear p269
            try clear p270
            try clear p271
            try clear q2
            try clear q25
            try clear q251
            try clear q252
            try clear q254
            try clear q26
            try clear q263
            try clear q269
            try clear q270
            try clear q271
            obtain ⟨kq, x5_8, x250000_8, x250001_8, x250002_8, x250003_8, x250004_8, x250005_8, x250006_8, x254001_8, x254003_8, x254004_8, x254005_8, x254006_8, x254007_8, x254008_8, u254007, u254008, rfl, HA, HJ8, HO_254007, HO_254008, BK249, BK253, HB⟩ := hcut
            cases kq with
            | zero => exact absurd HA.out (by simp [stolonref05_Decode.j3])
            | succ kj8 =>
              have H := HA.out
              clear HA
              simp only [stolonref05_Decode.j3] at H
              replace H := Option.bind_eq_some_iff.mp H
              obtain ⟨t272, A730, H⟩ := H
              replace H : (if x5_8 = (l0.length : Int) then (if t272 = true then (some ((rd l0 0), x254001_8, (rd l0 1), x254003_8, x254004_8, x254005_8, x254006_8, x254007_8, x254008_8, 0)) else (some (0, 0, 0, 0, false, 0, 0, ([] : List Int), ([] : List (S44)), 2))) else (some (0, 0, 0, 0, false, 0, 0, ([] : List Int), ([] : List (S44)), 2))) = some (r1, r2, r3, r4, r5, r6, r7, r8, r9, r10) := H
              have A73 := Aside0.mk A730
              clear A730
              by_cases c74 : x5_8 = (l0.length : Int)
              · rw [if_pos c74] at H
                have c74b0 : (x5_8 == (l0.length : Int)) = true := beq_iff_eq.mpr c74
                have c74b1 : (x5_8 != (l0.length : Int)) = false := bne_eq_false_iff_eq.mpr c74
                clear c74
                by_cases c75 : t272 = true
                · subst c75
                  have H1 : (some ((rd l0 0), x254001_8, (rd l0 1), x254003_8, x254004_8, x254005_8, x254006_8, x254007_8, x254008_8, 0)) = some (r1, r2, r3, r4, r5, r6, r7, r8, r9, r10) := by rw [if_pos rfl] at H; exact H
                  clear H
                  have H := H1
                  clear H1
                  simp only [Option.some.injEq, Prod.mk.injEq] at H
                  obtain ⟨rfl, rfl, rfl, rfl, rfl, rfl, rfl, rfl, rfl, rfl⟩ := H
                  have hnb76 := NB253_249.out
                  have hnc76 := NB249_253.out
                  obtain ⟨hcz77_0, hcz77_1, hcz77_2, hcz77_3, hcz77_4, hcz77_5, hcz77_6, hcz77_7, hcz77_8, hfz77_0, hfz77_1, hfz77_2, hfz77_3, hfz77_4, hfz77_5, hfz77_6, hfz77_7, hfz77_8⟩ := blk9 BK253.out
                  obtain ⟨Ao78, co78, eo78⟩ := Kd.R_slice HO_254007.out
                  subst eo78
                  obtain ⟨Ao79, co79, eo79⟩ := Kd.S_slice HO_254008.out
                  subst eo79
                  go_wp2_with (first | ((with_reducible refine gate_callee (f := 10) rfl ?_); refine goesL_ (some 114) rfl rfl Try.func10 (by kernel_rfl) rfl #[.agg #[.int .u8 (rd l0 0), .int .i64 x254001_8, .int .u8 (rd l0 1), .int .u32 x254003_8, .bool x254004_8, .int .u8 x254005_8, .int .u8 x254006_8, .slice Ao78 x254007_8.length co78, .slice Ao79 x254008_8.length co79]] rfl (by (try simp only [List.map_toArray, List.map_cons, List.map_nil]); first | done | rfl | (simp only [List.length_drop, List.length_take]; rfl)) ?_; (with_reducible refine (stolonref05_Right.calls kj8 (rd l0 0) x254001_8 (rd l0 1) x254003_8 x254004_8 x254005_8 x254006_8 _ _ x254007_8 _ _ x254008_8 true _ ?side1 ?side2 ?side3 ?side4 A73.out).mono ?_); (case side1 => repeat (first | exact (Kd.R_reads' HO_254007.out).2.2 | (with_reducible refine Kd.C_alloc ?_ _) | (with_reducible refine Kd.C_drewN ?_ _) | (with_reducible refine Kd.C_drew ?_))); (case side2 => exact (Kd.R_reads' HO_254007.out).2.1); (case side3 => repeat (first | exact (Kd.S_reads' HO_254008.out).2.2 | (with_reducible refine Kd.C_alloc ?_ _) | (with_reducible refine Kd.C_drewN ?_ _) | (with_reducible refine Kd.C_drew ?_))); (case side4 => exact (Kd.S_reads' HO_254008.out).2.1); rintro e w80 ⟨rfl, hb⟩; refine ⟨_, rfl, ?_⟩; have n0_ := Aside0.mk (Kd.R_below (by (with_reducible repeat (first | apply Kd.R_alloc | apply Kd.R_drewN | apply Kd.R_drew)); exact HO_254007.out) hb); have n1_ := Aside0.mk (Kd.S_below (by (with_reducible repeat (first | apply Kd.S_alloc | apply Kd.S_drewN | apply Kd.S_drew)); exact HO_254008.out) hb); have n2_ := Aside0.mk (blk_below (g := gb249) (o := .cells #[.int .u8 x250000_8, .int .i64 x250001_8, .int .u8 x250002_8, .int .u32 x250003_8, .bool x250004_8, .int .u8 x250005_8, .int .u8 x250006_8, .slice none 0 0, .slice none 0 0] 27 (0, 0)) (by (with_reducible repeat (first | refine blk_drewN ?_ _ | refine blk_drew ?_ | refine blk_alloc ?_ _)); exact BK249.out) hb); have n3_ := Aside0.mk (blk_below (g := gb253) (o := .cells #[.int .u8 (rd l0 0), .int .i64 x254001_8, .int .u8 (rd l0 1), .int .u32 x254003_8, .bool x254004_8, .int .u8 x254005_8, .int .u8 x254006_8, .slice Ao78 x254007_8.length co78, .slice Ao79 x254008_8.length co79] 27 (0, 0)) (by (with_reducible repeat (first | refine blk_drewN ?_ _ | refine blk_drew ?_ | refine blk_alloc ?_ _)); exact BK253.out) hb); have n4_ := Aside0.mk (below_step (by repeat (first | (with_reducible first | exact HB.out | apply below_alloc | apply pw_below_drewN | apply below_drew1 | refine below_set ?_ GE249.out | refine below_set ?_ GE253.out) | exact HB.out)) hb); clear HO_254007; clear HO_254008; clear BK249; clear BK253; clear HB; have HO_254007 := n0_; have HO_254008 := n1_; have BK249 := n2_; have BK253 := n3_; have HB := n4_; clear n0_ n1_ n2_ n3_ n4_; (try clear hb); (try clear hb2); (try clear hk); (try clear hi); obtain ⟨hcz81_0, hcz81_1, hcz81_2, hcz81_3, hcz81_4, hcz81_5, hcz81_6, hcz81_7, hcz81_8, hfz81_0, hfz81_1, hfz81_2, hfz81_3, hfz81_4, hfz81_5, hfz81_6, hfz81_7, hfz81_8⟩ := blk9 BK253.out; obtain ⟨hcz82_0, hcz82_1, hcz82_2, hcz82_3, hcz82_4, hcz82_5, hcz82_6, hcz82_7, hcz82_8, hfz82_0, hfz82_1, hfz82_2, hfz82_3, hfz82_4, hfz82_5, hfz82_6, hfz82_7, hfz82_8⟩ := blk9 BK249.out))
                  refine bodyPost_ret (results_ct rfl _ _ gb249 27 #[.int .u8 (rd l0 0), .int .i64 x254001_8, .int .u8 (rd l0 1), .int .u32 x254003_8, .bool x254004_8, .int .u8 x254005_8, .int .u8 x254006_8, .slice Ao78 x254007_8.length co78, .slice Ao79 x254008_8.length co79] (0, 0) _ rfl (by (with_reducible repeat (first | refine blk_drewN ?_ _ | refine blk_drew ?_ | refine blk_alloc ?_ _)); refine blk_put (cs := #[.int .u8 (rd l0 0), .int .i64 x254001_8, .int .u8 (rd l0 1), .int .u32 x254003_8, .bool x254004_8, .int .u8 x254005_8, .int .u8 x254006_8, .slice Ao78 x254007_8.length co78, .slice none 0 0]) ?_ 8 _ rfl; (with_reducible repeat (first | refine blk_drewN ?_ _ | refine blk_drew ?_ | refine blk_alloc ?_ _)); refine blk_put (cs := #[.int .u8 (rd l0 0), .int .i64 x254001_8, .int .u8 (rd l0 1), .int .u32 x254003_8, .bool x254004_8, .int .u8 x254005_8, .int .u8 x254006_8, .slice none 0 0, .slice none 0 0]) ?_ 7 _ rfl; (with_reducible repeat (first | refine blk_drewN ?_ _ | refine blk_drew ?_ | refine blk_alloc ?_ _)); refine blk_put (cs := #[.int .u8 (rd l0 0), .int .i64 x254001_8, .int .u8 (rd l0 1), .int .u32 x254003_8, .bool x254004_8, .int .u8 x254005_8, .int .u8 x250006_8, .slice none 0 0, .slice none 0 0]) ?_ 6 _ rfl; (with_reducible repeat (first | refine blk_drewN ?_ _ | refine blk_drew ?_ | refine blk_alloc ?_ _)); refine blk_put (cs := #[.int .u8 (rd l0 0), .int .i64 x254001_8, .int .u8 (rd l0 1), .int .u32 x254003_8, .bool x254004_8, .int .u8 x250005_8, .int .u8 x250006_8, .slice none 0 0, .slice none 0 0]) ?_ 5 _ rfl; (with_reducible repeat (first | refine blk_drewN ?_ _ | refine blk_drew ?_ | refine blk_alloc ?_ _)); refine blk_put (cs := #[.int .u8 (rd l0 0), .int .i64 x254001_8, .int .u8 (rd l0 1), .int .u32 x254003_8, .bool x250004_8, .int .u8 x250005_8, .int .u8 x250006_8, .slice none 0 0, .slice none 0 0]) ?_ 4 _ rfl; (with_reducible repeat (first | refine blk_drewN ?_ _ | refine blk_drew ?_ | refine blk_alloc ?_ _)); refine blk_put (cs := #[.int .u8 (rd l0 0), .int .i64 x254001_8, .int .u8 (rd l0 1), .int .u32 x250003_8, .bool x250004_8, .int .u8 x250005_8, .int .u8 x250006_8, .slice none 0 0, .slice none 0 0]) ?_ 3 _ rfl; (with_reducible repeat (first | refine blk_drewN ?_ _ | refine blk_drew ?_ | refine blk_alloc ?_ _)); refine blk_put (cs := #[.int .u8 (rd l0 0), .int .i64 x254001_8, .int .u8 x250002_8, .int .u32 x250003_8, .bool x250004_8, .int .u8 x250005_8, .int .u8 x250006_8, .slice none 0 0, .slice none 0 0]) ?_ 2 _ rfl; (with_reducible repeat (first | refine blk_drewN ?_ _ | refine blk_drew ?_ | refine blk_alloc ?_ _)); refine blk_put (cs := #[.int .u8 (rd l0 0), .int .i64 x250001_8, .int .u8 x250002_8, .int .u32 x250003_8, .bool x250004_8, .int .u8 x250005_8, .int .u8 x250006_8, .slice none 0 0, .slice none 0 0]) ?_ 1 _ rfl; (with_reducible repeat (first | refine blk_drewN ?_ _ | refine blk_drew ?_ | refine blk_alloc ?_ _)); refine blk_put (cs := #[.int .u8 x250000_8, .int .i64 x250001_8, .int .u8 x250002_8, .int .u32 x250003_8, .bool x250004_8, .int .u8 x250005_8, .int .u8 x250006_8, .slice none 0 0, .slice none 0 0]) ?_ 0 _ rfl; (with_reducible repeat (first | refine blk_drewN ?_ _ | refine blk_drew ?_ | refine blk_alloc ?_ _)); exact BK249.out) Try.underlying27 rfl (by kernel_rfl)) rfl ?_
                  exact ⟨_, _, by first | rfl | (simp [errW_none, errW_some] <;> rfl) | (simp [*, errW_none, errW_some] <;> rfl), by (with_reducible repeat (first | apply Kd.R_alloc | apply Kd.R_drewN | apply Kd.R_drew)); exact Kd.R_mono (Kd.R_far (p := ⟨gb249, 8, none⟩) (Kd.R_far (p := ⟨gb249, 7, none⟩) (Kd.R_far (p := ⟨gb249, 6, none⟩) (Kd.R_far (p := ⟨gb249, 5, none⟩) (Kd.R_far (p := ⟨gb249, 4, none⟩) (Kd.R_far (p := ⟨gb249, 3, none⟩) (Kd.R_far (p := ⟨gb249, 2, none⟩) (Kd.R_far (p := ⟨gb249, 1, none⟩) (Kd.R_far (p := ⟨gb249, 0, none⟩) (Kd.R_types HO_254007.out BK249.out (by decide)) (fun _ hk => hk.2) (.int .u8 (rd l0 0))) (fun _ hk => hk.2) (.int .i64 x254001_8)) (fun _ hk => hk.2) (.int .u8 (rd l0 1))) (fun _ hk => hk.2) (.int .u32 x254003_8)) (fun _ hk => hk.2) (.bool x254004_8)) (fun _ hk => hk.2) (.int .u8 x254005_8)) (fun _ hk => hk.2) (.int .u8 x254006_8)) (fun _ hk => hk.2) (.slice Ao78 x254007_8.length co78)) (fun _ hk => hk.2) (.slice Ao79 x254008_8.length co79)) (fun _ hk => trivial), by (with_reducible repeat (first | apply Kd.S_alloc | apply Kd.S_drewN | apply Kd.S_drew)); exact Kd.S_mono (Kd.S_far (p := ⟨gb249, 8, none⟩) (Kd.S_far (p := ⟨gb249, 7, none⟩) (Kd.S_far (p := ⟨gb249, 6, none⟩) (Kd.S_far (p := ⟨gb249, 5, none⟩) (Kd.S_far (p := ⟨gb249, 4, none⟩) (Kd.S_far (p := ⟨gb249, 3, none⟩) (Kd.S_far (p := ⟨gb249, 2, none⟩) (Kd.S_far (p := ⟨gb249, 1, none⟩) (Kd.S_far (p := ⟨gb249, 0, none⟩) (Kd.S_types HO_254008.out BK249.out (by decide)) (fun _ hk => hk.2) (.int .u8 (rd l0 0))) (fun _ hk => hk.2) (.int .i64 x254001_8)) (fun _ hk => hk.2) (.int .u8 (rd l0 1))) (fun _ hk => hk.2) (.int .u32 x254003_8)) (fun _ hk => hk.2) (.bool x254004_8)) (fun _ hk => hk.2) (.int .u8 x254005_8)) (fun _ hk => hk.2) (.int .u8 x254006_8)) (fun _ hk => hk.2) (.slice Ao78 x254007_8.length co78)) (fun _ hk => hk.2) (.slice Ao79 x254008_8.length co79)) (fun _ hk => hk.1), by repeat (first | (with_reducible first | exact HB.out | apply below_alloc | apply pw_below_drewN | apply below_drew1 | refine below_set ?_ GE249.out | refine below_set ?_ GE253.out) | exact HB.out)⟩
                · replace c75 := Bool.eq_false_iff.mpr c75
                  subst c75
                  have H1 : (some (0, 0, 0, 0, false, 0, 0, ([] : List Int), ([] : List (S44)), 2)) = some (r1, r2, r3, r4, r5, r6, r7, r8, r9, r10) := by rw [if_neg (show ¬ (false = true) by decide)] at H; exact H
                  clear H
                  have H := H1
                  clear H1
                  simp only [Option.some.injEq, Prod.mk.injEq] at H
                  obtain ⟨rfl, rfl, rfl, rfl, rfl, rfl, rfl, rfl, rfl, rfl⟩ := H
                  have hnb83 := NB253_249.out
                  have hnc83 := NB249_253.out
                  obtain ⟨hcz84_0, hcz84_1, hcz84_2, hcz84_3, hcz84_4, hcz84_5, hcz84_6, hcz84_7, hcz84_8, hfz84_0, hfz84_1, hfz84_2, hfz84_3, hfz84_4, hfz84_5, hfz84_6, hfz84_7, hfz84_8⟩ := blk9 BK253.out
                  obtain ⟨Ao85, co85, eo85⟩ := Kd.R_slice HO_254007.out
                  subst eo85
                  obtain ⟨Ao86, co86, eo86⟩ := Kd.S_slice HO_254008.out
                  subst eo86
                  go_wp2_with (first | ((with_reducible refine gate_callee (f := 10) rfl ?_); refine goesL_ (some 114) rfl rfl Try.func10 (by kernel_rfl) rfl #[.agg #[.int .u8 (rd l0 0), .int .i64 x254001_8, .int .u8 (rd l0 1), .int .u32 x254003_8, .bool x254004_8, .int .u8 x254005_8, .int .u8 x254006_8, .slice Ao85 x254007_8.length co85, .slice Ao86 x254008_8.length co86]] rfl (by (try simp only [List.map_toArray, List.map_cons, List.map_nil]); first | done | rfl | (simp only [List.length_drop, List.length_take]; rfl)) ?_; (with_reducible refine (stolonref05_Right.calls kj8 (rd l0 0) x254001_8 (rd l0 1) x254003_8 x254004_8 x254005_8 x254006_8 _ _ x254007_8 _ _ x254008_8 false _ ?side1 ?side2 ?side3 ?side4 A73.out).mono ?_); (case side1 => repeat (first | exact (Kd.R_reads' HO_254007.out).2.2 | (with_reducible refine Kd.C_alloc ?_ _) | (with_reducible refine Kd.C_drewN ?_ _) | (with_reducible refine Kd.C_drew ?_))); (case side2 => exact (Kd.R_reads' HO_254007.out).2.1); (case side3 => repeat (first | exact (Kd.S_reads' HO_254008.out).2.2 | (with_reducible refine Kd.C_alloc ?_ _) | (with_reducible refine Kd.C_drewN ?_ _) | (with_reducible refine Kd.C_drew ?_))); (case side4 => exact (Kd.S_reads' HO_254008.out).2.1); rintro e w87 ⟨rfl, hb⟩; refine ⟨_, rfl, ?_⟩; have n0_ := Aside0.mk (Kd.R_below (by (with_reducible repeat (first | apply Kd.R_alloc | apply Kd.R_drewN | apply Kd.R_drew)); exact HO_254007.out) hb); have n1_ := Aside0.mk (Kd.S_below (by (with_reducible repeat (first | apply Kd.S_alloc | apply Kd.S_drewN | apply Kd.S_drew)); exact HO_254008.out) hb); have n2_ := Aside0.mk (blk_below (g := gb249) (o := .cells #[.int .u8 x250000_8, .int .i64 x250001_8, .int .u8 x250002_8, .int .u32 x250003_8, .bool x250004_8, .int .u8 x250005_8, .int .u8 x250006_8, .slice none 0 0, .slice none 0 0] 27 (0, 0)) (by (with_reducible repeat (first | refine blk_drewN ?_ _ | refine blk_drew ?_ | refine blk_alloc ?_ _)); exact BK249.out) hb); have n3_ := Aside0.mk (blk_below (g := gb253) (o := .cells #[.int .u8 (rd l0 0), .int .i64 x254001_8, .int .u8 (rd l0 1), .int .u32 x254003_8, .bool x254004_8, .int .u8 x254005_8, .int .u8 x254006_8, .slice Ao85 x254007_8.length co85, .slice Ao86 x254008_8.length co86] 27 (0, 0)) (by (with_reducible repeat (first | refine blk_drewN ?_ _ | refine blk_drew ?_ | refine blk_alloc ?_ _)); exact BK253.out) hb); have n4_ := Aside0.mk (below_step (by repeat (first | (with_reducible first | exact HB.out | apply below_alloc | apply pw_below_drewN | apply below_drew1 | refine below_set ?_ GE249.out | refine below_set ?_ GE253.out) | exact HB.out)) hb); clear HO_254007; clear HO_254008; clear BK249; clear BK253; clear HB; have HO_254007 := n0_; have HO_254008 := n1_; have BK249 := n2_; have BK253 := n3_; have HB := n4_; clear n0_ n1_ n2_ n3_ n4_; (try clear hb); (try clear hb2); (try clear hk); (try clear hi); obtain ⟨hcz88_0, hcz88_1, hcz88_2, hcz88_3, hcz88_4, hcz88_5, hcz88_6, hcz88_7, hcz88_8, hfz88_0, hfz88_1, hfz88_2, hfz88_3, hfz88_4, hfz88_5, hfz88_6, hfz88_7, hfz88_8⟩ := blk9 BK249.out))
                  refine bodyPost_ret (results_ct rfl _ _ gb249 27 #[.int .u8 0, .int .i64 0, .int .u8 0, .int .u32 0, .bool false, .int .u8 0, .int .u8 0, .slice none 0 0, .slice none 0 0] (0, 0) _ rfl (by (with_reducible repeat (first | refine blk_drewN ?_ _ | refine blk_drew ?_ | refine blk_alloc ?_ _)); refine blk_put (cs := #[.int .u8 0, .int .i64 0, .int .u8 0, .int .u32 0, .bool false, .int .u8 0, .int .u8 0, .slice none 0 0, .slice none 0 0]) ?_ 8 _ rfl; (with_reducible repeat (first | refine blk_drewN ?_ _ | refine blk_drew ?_ | refine blk_alloc ?_ _)); refine blk_put (cs := #[.int .u8 0, .int .i64 0, .int .u8 0, .int .u32 0, .bool false, .int .u8 0, .int .u8 0, .slice none 0 0, .slice none 0 0]) ?_ 7 _ rfl; (with_reducible repeat (first | refine blk_drewN ?_ _ | refine blk_drew ?_ | refine blk_alloc ?_ _)); refine blk_put (cs := #[.int .u8 0, .int .i64 0, .int .u8 0, .int .u32 0, .bool false, .int .u8 0, .int .u8 x250006_8, .slice none 0 0, .slice none 0 0]) ?_ 6 _ rfl; (with_reducible repeat (first | refine blk_drewN ?_ _ | refine blk_drew ?_ | refine blk_alloc ?_ _)); refine blk_put (cs := #[.int .u8 0, .int .i64 0, .int .u8 0, .int .u32 0, .bool false, .int .u8 x250005_8, .int .u8 x250006_8, .slice none 0 0, .slice none 0 0]) ?_ 5 _ rfl; (with_reducible repeat (first | refine blk_drewN ?_ _ | refine blk_drew ?_ | refine blk_alloc ?_ _)); refine blk_put (cs := #[.int .u8 0, .int .i64 0, .int .u8 0, .int .u32 0, .bool x250004_8, .int .u8 x250005_8, .int .u8 x250006_8, .slice none 0 0, .slice none 0 0]) ?_ 4 _ rfl; (with_reducible repeat (first | refine blk_drewN ?_ _ | refine blk_drew ?_ | refine blk_alloc ?_ _)); refine blk_put (cs := #[.int .u8 0, .int .i64 0, .int .u8 0, .int .u32 x250003_8, .bool x250004_8, .int .u8 x250005_8, .int .u8 x250006_8, .slice none 0 0, .slice none 0 0]) ?_ 3 _ rfl; (with_reducible repeat (first | refine blk_drewN ?_ _ | refine blk_drew ?_ | refine blk_alloc ?_ _)); refine blk_put (cs := #[.int .u8 0, .int .i64 0, .int .u8 x250002_8, .int .u32 x250003_8, .bool x250004_8, .int .u8 x250005_8, .int .u8 x250006_8, .slice none 0 0, .slice none 0 0]) ?_ 2 _ rfl; (with_reducible repeat (first | refine blk_drewN ?_ _ | refine blk_drew ?_ | refine blk_alloc ?_ _)); refine blk_put (cs := #[.int .u8 0, .int .i64 x250001_8, .int .u8 x250002_8, .int .u32 x250003_8, .bool x250004_8, .int .u8 x250005_8, .int .u8 x250006_8, .slice none 0 0, .slice none 0 0]) ?_ 1 _ rfl; (with_reducible repeat (first | refine blk_drewN ?_ _ | refine blk_drew ?_ | refine blk_alloc ?_ _)); refine blk_put (cs := #[.int .u8 x250000_8, .int .i64 x250001_8, .int .u8 x250002_8, .int .u32 x250003_8, .bool x250004_8, .int .u8 x250005_8, .int .u8 x250006_8, .slice none 0 0, .slice none 0 0]) ?_ 0 _ rfl; (with_reducible repeat (first | refine blk_drewN ?_ _ | refine blk_drew ?_ | refine blk_alloc ?_ _)); exact BK249.out) Try.underlying27 rfl (by kernel_rfl)) rfl ?_
                  exact ⟨_, _, by first | rfl | (simp [errW_none, errW_some] <;> rfl) | (simp [*, errW_none, errW_some] <;> rfl), by first | exact Kd.R_nil _ _ _ _ _ | exact Kd.N_nil _ _ _ _ _ | exact Kd.V_nil _ _ _ _ _ | exact Kd.Q_nil _ _ _ _ _ | exact Kd.S_nil _ _ _ _ _, by first | exact Kd.S_nil _ _ _ _ _ | exact Kd.N_nil _ _ _ _ _ | exact Kd.V_nil _ _ _ _ _ | exact Kd.Q_nil _ _ _ _ _ | exact Kd.R_nil _ _ _ _ _, by repeat (first | (with_reducible first | exact HB.out | apply below_alloc | apply pw_below_drewN | apply below_drew1 | refine below_set ?_ GE249.out | refine below_set ?_ GE253.out) | exact HB.out)⟩
              · rw [if_neg c74] at H
                have c74b0 : (x5_8 == (l0.length : Int)) = false := beq_eq_false_iff_ne.mpr c74
                have c74b1 : (x5_8 != (l0.length : Int)) = true := bne_iff_ne.mpr c74
                simp only [Option.some.injEq, Prod.mk.injEq] at H
                obtain ⟨rfl, rfl, rfl, rfl, rfl, rfl, rfl, rfl, rfl, rfl⟩ := H
                have hnb89 := NB253_249.out
                have hnc89 := NB249_253.out
                obtain ⟨hcz90_0, hcz90_1, hcz90_2, hcz90_3, hcz90_4, hcz90_5, hcz90_6, hcz90_7, hcz90_8, hfz90_0, hfz90_1, hfz90_2, hfz90_3, hfz90_4, hfz90_5, hfz90_6, hfz90_7, hfz90_8⟩ := blk9 BK253.out
                obtain ⟨Ao91, co91, eo91⟩ := Kd.R_slice HO_254007.out
                subst eo91
                obtain ⟨Ao92, co92, eo92⟩ := Kd.S_slice HO_254008.out
                subst eo92
                go_wp2_with (first | ((with_reducible refine gate_callee (f := 10) rfl ?_); refine goesL_ (some 114) rfl rfl Try.func10 (by kernel_rfl) rfl #[.agg #[.int .u8 (rd l0 0), .int .i64 x254001_8, .int .u8 (rd l0 1), .int .u32 x254003_8, .bool x254004_8, .int .u8 x254005_8, .int .u8 x254006_8, .slice Ao91 x254007_8.length co91, .slice Ao92 x254008_8.length co92]] rfl (by (try simp only [List.map_toArray, List.map_cons, List.map_nil]); first | done | rfl | (simp only [List.length_drop, List.length_take]; rfl)) ?_; (with_reducible refine (stolonref05_Right.calls kj8 (rd l0 0) x254001_8 (rd l0 1) x254003_8 x254004_8 x254005_8 x254006_8 _ _ x254007_8 _ _ x254008_8 t272 _ ?side1 ?side2 ?side3 ?side4 A73.out).mono ?_); (case side1 => repeat (first | exact (Kd.R_reads' HO_254007.out).2.2 | (with_reducible refine Kd.C_alloc ?_ _) | (with_reducible refine Kd.C_drewN ?_ _) | (with_reducible refine Kd.C_drew ?_))); (case side2 => exact (Kd.R_reads' HO_254007.out).2.1); (case side3 => repeat (first | exact (Kd.S_reads' HO_254008.out).2.2 | (with_reducible refine Kd.C_alloc ?_ _) | (with_reducible refine Kd.C_drewN ?_ _) | (with_reducible refine Kd.C_drew ?_))); (case side4 => exact (Kd.S_reads' HO_254008.out).2.1); rintro e w93 ⟨rfl, hb⟩; refine ⟨_, rfl, ?_⟩; have n0_ := Aside0.mk (Kd.R_below (by (with_reducible repeat (first | apply Kd.R_alloc | apply Kd.R_drewN | apply Kd.R_drew)); exact HO_254007.out) hb); have n1_ := Aside0.mk (Kd.S_below (by (with_reducible repeat (first | apply Kd.S_alloc | apply Kd.S_drewN | apply Kd.S_drew)); exact HO_254008.out) hb); have n2_ := Aside0.mk (blk_below (g := gb249) (o := .cells #[.int .u8 x250000_8, .int .i64 x250001_8, .int .u8 x250002_8, .int .u32 x250003_8, .bool x250004_8, .int .u8 x250005_8, .int .u8 x250006_8, .slice none 0 0, .slice none 0 0] 27 (0, 0)) (by (with_reducible repeat (first | refine blk_drewN ?_ _ | refine blk_drew ?_ | refine blk_alloc ?_ _)); exact BK249.out) hb); have n3_ := Aside0.mk (blk_below (g := gb253) (o := .cells #[.int .u8 (rd l0 0), .int .i64 x254001_8, .int .u8 (rd l0 1), .int .u32 x254003_8, .bool x254004_8, .int .u8 x254005_8, .int .u8 x254006_8, .slice Ao91 x254007_8.length co91, .slice Ao92 x254008_8.length co92] 27 (0, 0)) (by (with_reducible repeat (first | refine blk_drewN ?_ _ | refine blk_drew ?_ | refine blk_alloc ?_ _)); exact BK253.out) hb); have n4_ := Aside0.mk (below_step (by repeat (first | (with_reducible first | exact HB.out | apply below_alloc | apply pw_below_drewN | apply below_drew1 | refine below_set ?_ GE249.out | refine below_set ?_ GE253.out) | exact HB.out)) hb); clear HO_254007; clear HO_254008; clear BK249; clear BK253; clear HB; have HO_254007 := n0_; have HO_254008 := n1_; have BK249 := n2_; have BK253 := n3_; have HB := n4_; clear n0_ n1_ n2_ n3_ n4_; (try clear hb); (try clear hb2); (try clear hk); (try clear hi); obtain ⟨hcz94_0, hcz94_1, hcz94_2, hcz94_3, hcz94_4, hcz94_5, hcz94_6, hcz94_7, hcz94_8, hfz94_0, hfz94_1, hfz94_2, hfz94_3, hfz94_4, hfz94_5, hfz94_6, hfz94_7, hfz94_8⟩ := blk9 BK249.out))
                refine bodyPost_ret (results_ct rfl _ _ gb249 27 #[.int .u8 0, .int .i64 0, .int .u8 0, .int .u32 0, .bool false, .int .u8 0, .int .u8 0, .slice none 0 0, .slice none 0 0] (0, 0) _ rfl (by (with_reducible repeat (first | refine blk_drewN ?_ _ | refine blk_drew ?_ | refine blk_alloc ?_ _)); refine blk_put (cs := #[.int .u8 0, .int .i64 0, .int .u8 0, .int .u32 0, .bool false, .int .u8 0, .int .u8 0, .slice none 0 0, .slice none 0 0]) ?_ 8 _ rfl; (with_reducible repeat (first | refine blk_drewN ?_ _ | refine blk_drew ?_ | refine blk_alloc ?_ _)); refine blk_put (cs := #[.int .u8 0, .int .i64 0, .int .u8 0, .int .u32 0, .bool false, .int .u8 0, .int .u8 0, .slice none 0 0, .slice none 0 0]) ?_ 7 _ rfl; (with_reducible repeat (first | refine blk_drewN ?_ _ | refine blk_drew ?_ | refine blk_alloc ?_ _)); refine blk_put (cs := #[.int .u8 0, .int .i64 0, .int .u8 0, .int .u32 0, .bool false, .int .u8 0, .int .u8 x250006_8, .slice none 0 0, .slice none 0 0]) ?_ 6 _ rfl; (with_reducible repeat (first | refine blk_drewN ?_ _ | refine blk_drew ?_ | refine blk_alloc ?_ _)); refine blk_put (cs := #[.int .u8 0, .int .i64 0, .int .u8 0, .int .u32 0, .bool false, .int .u8 x250005_8, .int .u8 x250006_8, .slice none 0 0, .slice none 0 0]) ?_ 5 _ rfl; (with_reducible repeat (first | refine blk_drewN ?_ _ | refine blk_drew ?_ | refine blk_alloc ?_ _)); refine blk_put (cs := #[.int .u8 0, .int .i64 0, .int .u8 0, .int .u32 0, .bool x250004_8, .int .u8 x250005_8, .int .u8 x250006_8, .slice none 0 0, .slice none 0 0]) ?_ 4 _ rfl; (with_reducible repeat (first | refine blk_drewN ?_ _ | refine blk_drew ?_ | refine blk_alloc ?_ _)); refine blk_put (cs := #[.int .u8 0, .int .i64 0, .int .u8 0, .int .u32 x250003_8, .bool x250004_8, .int .u8 x250005_8, .int .u8 x250006_8, .slice none 0 0, .slice none 0 0]) ?_ 3 _ rfl; (with_reducible repeat (first | refine blk_drewN ?_ _ | refine blk_drew ?_ | refine blk_alloc ?_ _)); refine blk_put (cs := #[.int .u8 0, .int .i64 0, .int .u8 x250002_8, .int .u32 x250003_8, .bool x250004_8, .int .u8 x250005_8, .int .u8 x250006_8, .slice none 0 0, .slice none 0 0]) ?_ 2 _ rfl; (with_reducible repeat (first | refine blk_drewN ?_ _ | refine blk_drew ?_ | refine blk_alloc ?_ _)); refine blk_put (cs := #[.int .u8 0, .int .i64 x250001_8, .int .u8 x250002_8, .int .u32 x250003_8, .bool x250004_8, .int .u8 x250005_8, .int .u8 x250006_8, .slice none 0 0, .slice none 0 0]) ?_ 1 _ rfl; (with_reducible repeat (first | refine blk_drewN ?_ _ | refine blk_drew ?_ | refine blk_alloc ?_ _)); refine blk_put (cs := #[.int .u8 x250000_8, .int .i64 x250001_8, .int .u8 x250002_8, .int .u32 x250003_8, .bool x250004_8, .int .u8 x250005_8, .int .u8 x250006_8, .slice none 0 0, .slice none 0 0]) ?_ 0 _ rfl; (with_reducible repeat (first | refine blk_drewN ?_ _ | refine blk_drew ?_ | refine blk_alloc ?_ _)); exact BK249.out) Try.underlying27 rfl (by kernel_rfl)) rfl ?_
                exact ⟨_, _, by first | rfl | (simp [errW_none, errW_some] <;> rfl) | (simp [*, errW_none, errW_some] <;> rfl), by first | exact Kd.R_nil _ _ _ _ _ | exact Kd.N_nil _ _ _ _ _ | exact Kd.V_nil _ _ _ _ _ | exact Kd.Q_nil _ _ _ _ _ | exact Kd.S_nil _ _ _ _ _, by first | exact Kd.S_nil _ _ _ _ _ | exact Kd.N_nil _ _ _ _ _ | exact Kd.V_nil _ _ _ _ _ | exact Kd.Q_nil _ _ _ _ _ | exact Kd.R_nil _ _ _ _ _, by repeat (first | (with_reducible first | exact HB.out | apply below_alloc | apply pw_below_drewN | apply below_drew1 | refine below_set ?_ GE249.out | refine below_set ?_ GE253.out) | exact HB.out)⟩
        · rw [if_neg c8] at H
          exact absurd H (by simp)
      · rw [if_neg c7] at H
        exact absurd H (by simp)
    · rw [if_neg c6] at H
      have c6b0 : (t250 == 0) = false := beq_eq_false_iff_ne.mpr c6
      have c6b1 : (t250 != 0) = true := bne_iff_ne.mpr c6
      simp only [Option.some.injEq, Prod.mk.injEq] at H
      obtain ⟨rfl, rfl, rfl, rfl, rfl, rfl, rfl, rfl, rfl, rfl⟩ := H
      go_enter Try.func15, Try.ntmps15
      go_wp2_with (first | ((with_reducible refine gate_dst (N := 2) rfl ?_); refine box_event ?hg (N := 2) ?hd (cs := #[.int .u8 0, .int .i64 0, .int .u8 0, .int .u32 0, .bool false, .int .u8 0, .int .u8 0, .slice none 0 0, .slice none 0 0]) (t := 27) ?hr ?_; (case hd => rfl); (case hg => rfl); (case hr => first | (go_simp; done) | (go_simp; rfl)); intro gb249 hg w95 hbox hb; have n0_ := Aside0.mk (below_step (by repeat (first | (with_reducible first | exact HB.out | apply below_alloc | apply pw_below_drewN | apply below_drew1) | exact HB.out)) hb); have n1_ := Aside0.mk (hbox); have n2_ := Aside0.mk ((by rw [hg]; exact (below_size (by repeat (first | (with_reducible first | exact HB.out | apply below_alloc | apply pw_below_drewN | apply below_drew1) | exact HB.out))) : w.heap.size ≤ gb249)); have n3_ := Aside0.mk ((by rw [hg]; exact (below_size (by repeat (first | (with_reducible first | exact HB.out | apply below_alloc | apply pw_below_drewN | apply below_drew1) | exact HB.out))) : w.heap.size ≤ gb249)); clear HB; have HB := n0_; have BK249 := n1_; have GW249 := n2_; have GE249 := n3_; clear n0_ n1_ n2_ n3_; clear hb hbox hg) | ((with_reducible refine gate_callee (f := 38) rfl ?_); refine goesL_ (some 17) rfl rfl Try.func38 (by kernel_rfl) rfl #[.slice A0 l0.length c0] rfl (by (try simp only [List.map_toArray, List.map_cons, List.map_nil]); first | done | rfl | (simp only [List.length_drop, List.length_take]; rfl)) ?_; (with_reducible refine (stolonref02_Of.calls k _ _ l0 t250 _ ?side1 ?side2 A5.out).mono ?_); (case side1 => repeat (first | exact (Kd.C_below HR0.out HB.out) | (with_reducible refine Kd.C_alloc ?_ _) | (with_reducible refine Kd.C_drewN ?_ _) | (with_reducible refine Kd.C_drew ?_))); (case side2 => exact HC0.out); rintro e w' ⟨rfl, ⟨nd, rfl⟩⟩; refine ⟨_, rfl, ?_⟩; (try (rw [drewN_self w95]; generalize hq_ : World.drewN w95 _ = w95; have n0_ : Aside0 (w95.heap[gb249]? = some (.cells #[.int .u8 0, .int .i64 0, .int .u8 0, .int .u32 0, .bool false, .int .u8 0, .int .u8 0, .slice none 0 0, .slice none 0 0] 27 (0, 0))) := ⟨by rw [← hq_]; exact (by (with_reducible repeat (first | refine blk_drewN ?_ _ | refine blk_drew ?_ | refine blk_alloc ?_ _)); exact BK249.out)⟩; have n1_ : Aside0 (Below w.heap.size w w95) := ⟨by rw [← hq_]; exact (by repeat (first | (with_reducible first | exact HB.out | apply below_alloc | apply pw_below_drewN | apply below_drew1 | refine below_set ?_ GE249.out) | exact HB.out))⟩; clear BK249 HB hq_; have BK249 := n0_; have HB := n1_; clear n0_ n1_)); obtain ⟨hcz96_0, hcz96_1, hcz96_2, hcz96_3, hcz96_4, hcz96_5, hcz96_6, hcz96_7, hcz96_8, hfz96_0, hfz96_1, hfz96_2, hfz96_3, hfz96_4, hfz96_5, hfz96_6, hfz96_7, hfz96_8⟩ := blk9 BK249.out))
      refine bodyPost_ret (results_ct rfl _ _ gb249 27 #[.int .u8 0, .int .i64 0, .int .u8 0, .int .u32 0, .bool false, .int .u8 0, .int .u8 0, .slice none 0 0, .slice none 0 0] (0, 0) _ rfl (by (with_reducible repeat (first | refine blk_drewN ?_ _ | refine blk_drew ?_ | refine blk_alloc ?_ _)); refine blk_put (cs := #[.int .u8 0, .int .i64 0, .int .u8 0, .int .u32 0, .bool false, .int .u8 0, .int .u8 0, .slice none 0 0, .slice none 0 0]) ?_ 8 _ rfl; (with_reducible repeat (first | refine blk_drewN ?_ _ | refine blk_drew ?_ | refine blk_alloc ?_ _)); refine blk_put (cs := #[.int .u8 0, .int .i64 0, .int .u8 0, .int .u32 0, .bool false, .int .u8 0, .int .u8 0, .slice none 0 0, .slice none 0 0]) ?_ 7 _ rfl; (with_reducible repeat (first | refine blk_drewN ?_ _ | refine blk_drew ?_ | refine blk_alloc ?_ _)); refine blk_put (cs := #[.int .u8 0, .int .i64 0, .int .u8 0, .int .u32 0, .bool false, .int .u8 0, .int .u8 0, .slice none 0 0, .slice none 0 0]) ?_ 6 _ rfl; (with_reducible repeat (first | refine blk_drewN ?_ _ | refine blk_drew ?_ | refine blk_alloc ?_ _)); refine blk_put (cs := #[.int .u8 0, .int .i64 0, .int .u8 0, .int .u32 0, .bool false, .int .u8 0, .int .u8 0, .slice none 0 0, .slice none 0 0]) ?_ 5 _ rfl; (with_reducible repeat (first | refine blk_drewN ?_ _ | refine blk_drew ?_ | refine blk_alloc ?_ _)); refine blk_put (cs := #[.int .u8 0, .int .i64 0, .int .u8 0, .int .u32 0, .bool false, .int .u8 0, .int .u8 0, .slice none 0 0, .slice none 0 0]) ?_ 4 _ rfl; (with_reducible repeat (first | refine blk_drewN ?_ _ | refine blk_drew ?_ | refine blk_alloc ?_ _)); refine blk_put (cs := #[.int .u8 0, .int .i64 0, .int .u8 0, .int .u32 0, .bool false, .int .u8 0, .int .u8 0, .slice none 0 0, .slice none 0 0]) ?_ 3 _ rfl; (with_reducible repeat (first | refine blk_drewN ?_ _ | refine blk_drew ?_ | refine blk_alloc ?_ _)); refine blk_put (cs := #[.int .u8 0, .int .i64 0, .int .u8 0, .int .u32 0, .bool false, .int .u8 0, .int .u8 0, .slice none 0 0, .slice none 0 0]) ?_ 2 _ rfl; (with_reducible repeat (first | refine blk_drewN ?_ _ | refine blk_drew ?_ | refine blk_alloc ?_ _)); refine blk_put (cs := #[.int .u8 0, .int .i64 0, .int .u8 0, .int .u32 0, .bool false, .int .u8 0, .int .u8 0, .slice none 0 0, .slice none 0 0]) ?_ 1 _ rfl; (with_reducible repeat (first | refine blk_drewN ?_ _ | refine blk_drew ?_ | refine blk_alloc ?_ _)); refine blk_put (cs := #[.int .u8 0, .int .i64 0, .int .u8 0, .int .u32 0, .bool false, .int .u8 0, .int .u8 0, .slice none 0 0, .slice none 0 0]) ?_ 0 _ rfl; (with_reducible repeat (first | refine blk_drewN ?_ _ | refine blk_drew ?_ | refine blk_alloc ?_ _)); exact BK249.out) Try.underlying27 rfl (by kernel_rfl)) rfl ?_
      exact ⟨_, _, by first | rfl | (simp [errW_none, errW_some] <;> rfl) | (simp [*, errW_none, errW_some] <;> rfl), by first | exact Kd.R_nil _ _ _ _ _ | exact Kd.N_nil _ _ _ _ _ | exact Kd.V_nil _ _ _ _ _ | exact Kd.Q_nil _ _ _ _ _ | exact Kd.S_nil _ _ _ _ _, by first | exact Kd.S_nil _ _ _ _ _ | exact Kd.N_nil _ _ _ _ _ | exact Kd.V_nil _ _ _ _ _ | exact Kd.Q_nil _ _ _ _ _ | exact Kd.R_nil _ _ _ _ _, by repeat (first | (with_reducible first | exact HB.out | apply below_alloc | apply pw_below_drewN | apply below_drew1 | refine below_set ?_ GE249.out) | exact HB.out)⟩
end Go.Proofs.Ytafmjhmpnlkeiaa.P
