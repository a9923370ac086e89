/- Seat 5's texts, merged by a program of this session: F21, F20, F53, F38, F22. Parts of the proof of IgmpWrites: whatever two messages, the law returns true. -/
import Derived.Test.YtafmjhmpnlkeiaaMA

/- Printed by myprint.py, a program of this session, over the kit's print. -/
namespace Go.Proofs.Ytafmjhmpnlkeiaa.P
open Go.RowKit Go.Proofs.YtafmjhmpnlkeiaaW.PrintWords Go.Proofs.YtafmjhmpnlkeiaaW.PrintLast Go.Proofs.YtafmjhmpnlkeiaaW.PrintMore
attribute [local go_sem] max2_int min2_int max_two min_two max_three min_three max_four min_four   -- for this text's walks alone
set_option linter.unusedVariables false
set_option linter.unusedSimpArgs false

/-! ### stolonref01_Bytes: function 21 -/
def stolonref01_Bytes.f (a0 : Int) : Option (List Int) := some (([((Int.tdiv a0 16777216) % 4294967296) % 256, ((Int.tdiv a0 65536) % 4294967296) % 256, ((Int.tdiv a0 256) % 4294967296) % 256, (Int.tmod a0 256) % 256] : List Int))
set_option maxHeartbeats 8000000 in
set_option maxRecDepth 100000 in
theorem stolonref01_Bytes.calls (a0 : Int) (r : List Int) (w : World) (h : stolonref01_Bytes.f a0 = some r) :
    Calls Try.prog 21 #[.int .u32 a0] w fun e w' => ∃ v0_ : Value, e = .returned (v0_) ∧ Kd.R (Kd.int .u8) 5 w' w.heap.size (fun _ => True) v0_ r ∧ Below w.heap.size w w' := by
  have HB := Aside0.mk (Below.refl w.heap.size w)
  have H : (some (([((Int.tdiv a0 16777216) % 4294967296) % 256, ((Int.tdiv a0 65536) % 4294967296) % 256, ((Int.tdiv a0 256) % 4294967296) % 256, (Int.tmod a0 256) % 256] : List Int))) = some r := h
  clear h
  obtain ⟨y159, hy159⟩ : ∃ y_ : List Int, y_ = (([((Int.tdiv a0 16777216) % 4294967296) % 256, ((Int.tdiv a0 65536) % 4294967296) % 256, ((Int.tdiv a0 256) % 4294967296) % 256, (Int.tmod a0 256) % 256] : List Int)) := ⟨_, rfl⟩
  replace H : (some y159) = some r := by first | (rw [hy159]; with_reducible exact H) | (have H2_ := (Option.bind_some _ _).symm.trans H; rw [hy159]; with_reducible exact H2_) | (have H2_ := (Option.bind_some _ _).symm.trans H; with_reducible exact H2_) | with_reducible exact H | (rw [hy159]; exact H) | exact H
  have Ny159 := Aside0.mk hy159
  clear hy159
  obtain rfl := Option.some.inj H
  go_enter Try.func21, Try.ntmps21
  go_wp2_with (first | ((with_reducible refine gate_dst (N := 19) rfl ?_); refine Kd.R_lit (Kd.int .u8) _ 5 ?hg (N := 19) ?hd (xs := ([((Int.tdiv a0 16777216) % 4294967296) % 256, ((Int.tdiv a0 65536) % 4294967296) % 256, ((Int.tdiv a0 256) % 4294967296) % 256, (Int.tmod a0 256) % 256] : List Int)) (inner := [.int .u8 (((Int.tdiv a0 16777216) % 4294967296) % 256), .int .u8 (((Int.tdiv a0 65536) % 4294967296) % 256), .int .u8 (((Int.tdiv a0 256) % 4294967296) % 256), .int .u8 ((Int.tmod a0 256) % 256)]) (ok := fun _ => True) (okp := fun _ => True) ?hr ?hp (fun _ hk => hk) trivial (Below.refl _ _) (Nat.le_refl _) (by simp) ?_; (case hd => rfl); (case hg => rfl); (case hr => first | (go_simp; done) | (go_simp; rfl)); (case hp => exact (Reps.one (show Kd.M (Kd.int .u8) _ _ _ (((Int.tdiv a0 16777216) % 4294967296) % 256) [.int .u8 (((Int.tdiv a0 16777216) % 4294967296) % 256)] from rfl) (Reps.one (show Kd.M (Kd.int .u8) _ _ _ (((Int.tdiv a0 65536) % 4294967296) % 256) [.int .u8 (((Int.tdiv a0 65536) % 4294967296) % 256)] from rfl) (Reps.one (show Kd.M (Kd.int .u8) _ _ _ (((Int.tdiv a0 256) % 4294967296) % 256) [.int .u8 (((Int.tdiv a0 256) % 4294967296) % 256)] from rfl) (Reps.one (show Kd.M (Kd.int .u8) _ _ _ ((Int.tmod a0 256) % 256) [.int .u8 ((Int.tmod a0 256) % 256)] from rfl) (Reps.none _ _)))))); intro v160 w2 ho3 hb hg_ hnew_; clear hg_ hnew_; (first | rw [← Ny159.out] at ho3 | (simp only [Int.reduceToNat] at ho3; rw [← Ny159.out] at ho3)); have n0_ := Aside0.mk (Kd.R_lower ho3 (below_size (by repeat (first | (with_reducible first | exact HB.out | apply below_alloc | apply pw_below_drewN | apply below_drew1) | exact HB.out)))); have n1_ := Aside0.mk (below_step (by repeat (first | (with_reducible first | exact HB.out | apply below_alloc | apply pw_below_drewN | apply below_drew1) | exact HB.out)) hb); clear HB; have HO161 := n0_; have HB := n1_; clear n0_ n1_; clear hb ho3))
  go_ret
  exact ⟨_, by first | rfl | (simp [errW_none, errW_some] <;> rfl) | (simp [*, errW_none, errW_some] <;> rfl), by (with_reducible repeat (first | apply Kd.R_alloc | apply Kd.R_drewN | apply Kd.R_drew)); exact HO161.out, by repeat (first | (with_reducible first | exact HB.out | apply below_alloc | apply pw_below_drewN | apply below_drew1) | exact HB.out)⟩

end Go.Proofs.Ytafmjhmpnlkeiaa.P

/- Printed by myprint.py, a program of this session, over the kit's print. -/
namespace Go.Proofs.Ytafmjhmpnlkeiaa.P
open Go.RowKit Go.Proofs.YtafmjhmpnlkeiaaW.PrintWords Go.Proofs.YtafmjhmpnlkeiaaW.PrintLast Go.Proofs.YtafmjhmpnlkeiaaW.PrintMore
attribute [local go_sem] max2_int min2_int max_two min_two max_three min_three max_four min_four   -- for this text's walks alone
set_option linter.unusedVariables false
set_option linter.unusedSimpArgs false

/-! ### stolonref05_rows: function 20 -/
def stolonref05_rows.l0 : Nat → List Int → List Int → Int → Option (List Int)
  | 0, _, _, _ => none
  | k + 1, x0, x2, x7 => if x7 < (x2.length : Int) then (if 0 ≤ x7 then ((stolonref01_Bytes.f (rd x2 x7)).bind fun t172 => (if x0.length + t172.length < 140737488355328 then (stolonref05_rows.l0 k (x0 ++ t172) x2 (wrap64 (x7 + 1))) else (none))) else (none)) else (some x0)
def stolonref05_rows.f (k : Nat) (l0 : List Int) (l1 : List Int) (l2 : List Int) : Option (List Int) := (some (([(wrap64 ((l2.length : Int) / 256)) % 256, (l2.length : Int) % 256] : List Int) : List Int)).bind fun y162 => (if l0.length + y162.length < 140737488355328 then ((some (l0 ++ y162 : List Int)).bind fun y165 => (if y165.length + l1.length < 140737488355328 then (stolonref05_rows.l0 k (y165 ++ l1) l2 0) else (none))) else (none))
theorem stolonref05_rows.mono_l : ∀ k, (∀ y0 y1 y2, LeO (stolonref05_rows.l0 k y0 y1 y2) (stolonref05_rows.l0 (k + 1) y0 y1 y2))
  | 0 => fun _ _ _ r h => by simp [stolonref05_rows.l0] at h
  | k + 1 => by
    have ih0 := stolonref05_rows.mono_l k
    · intro y0 y1 y2
      unfold stolonref05_rows.l0
      repeat' first
      | (with_reducible exact ih0 _ _ _)
      | (with_reducible exact LeO.refl _)
      | (with_reducible exact LeO.none _)
      | (with_reducible refine LeO.ite ?_ ?_)
      | (with_reducible refine LeO.bind ?_ (fun _ => ?_))
      | exact ih0 _ _ _
      | exact LeO.none _
      | refine LeO.ite ?_ ?_
      | refine LeO.bind ?_ (fun _ => ?_)
theorem stolonref05_rows.mono : ∀ a0 a1 a2 k, LeO (stolonref05_rows.f k a0 a1 a2) (stolonref05_rows.f (k + 1) a0 a1 a2) := by
  intro a0 a1 a2 k
  have ih0 := stolonref05_rows.mono_l k
  unfold stolonref05_rows.f
  repeat' first
      | (with_reducible exact ih0 _ _ _)
      | (with_reducible exact LeO.refl _)
      | (with_reducible exact LeO.none _)
      | (with_reducible refine LeO.ite ?_ ?_)
      | (with_reducible refine LeO.bind ?_ (fun _ => ?_))
      | exact ih0 _ _ _
      | exact LeO.none _
      | refine LeO.ite ?_ ?_
      | refine LeO.bind ?_ (fun _ => ?_)
set_option maxHeartbeats 8000000 in
set_option maxRecDepth 100000 in
theorem stolonref05_rows.calls (k : Nat) (P0_ : Nat → Prop) (u9000_ : Value) (l0 : List Int) (A1 : Option Addr) (c1 : Nat) (l1 : List Int) (A2 : Option Addr) (c2 : Nat) (l2 : List Int) (r : List Int) (w0 w : World) (hB : Below w0.heap.size w0 w) (ho0 : Kd.R (Kd.int .u8) 5 w w0.heap.size P0_ u9000_ l0) (hr1 : ∀ W_, Kept w W_ (fun k_ => P0_ k_) → Kd.C (Kd.int .u8) W_ A1 l1.length l1) (hc1 : l1.length ≤ c1) (hr2 : ∀ W_, Kept w W_ (fun k_ => P0_ k_) → Kd.C (Kd.int .u32) W_ A2 l2.length l2) (hc2 : l2.length ≤ c2) (h : stolonref05_rows.f k l0 l1 l2 = some r) :
    Calls Try.prog 20 #[u9000_, .slice A1 l1.length c1, .slice A2 l2.length c2] w fun e w' => ∃ v0_ : Value, e = .returned (v0_) ∧ Kd.R (Kd.int .u8) 5 w' w0.heap.size (fun k_ => (P0_ k_ ∨ w.heap.size ≤ k_)) v0_ r ∧ Below w0.heap.size w0 w' ∧ Kept w w' (fun k_ => P0_ k_) := by
  have HO0 := Aside0.mk (show Kd.R (Kd.int .u8) 5 w w0.heap.size (fun k_ => (P0_ k_ ∨ w.heap.size ≤ k_)) u9000_ l0 from Kd.R_mono ho0 (fun k_ hk => (.inl hk)))
  have HR1 := Aside0.mk hr1
  have HC1 := Aside0.mk hc1
  clear hr1 hc1
  have HR2 := Aside0.mk hr2
  have HC2 := Aside0.mk hc2
  clear hr2 hc2
  have HK := Aside0.mk (Kept.refl w (fun k_ => P0_ k_))
  have HW0 := Aside0.mk hB.size
  have HB := Aside0.mk hB
  clear hB
  have H : ((some (([(wrap64 ((l2.length : Int) / 256)) % 256, (l2.length : Int) % 256] : List Int) : List Int)).bind fun y162 => (if l0.length + y162.length < 140737488355328 then ((some (l0 ++ y162 : List Int)).bind fun y165 => (if y165.length + l1.length < 140737488355328 then (stolonref05_rows.l0 k (y165 ++ l1) l2 0) else (none))) else (none))) = some r := h
  clear h
  obtain ⟨y162, hy162⟩ : ∃ y_ : List Int, y_ = (([(wrap64 ((l2.length : Int) / 256)) % 256, (l2.length : Int) % 256] : List Int)) := ⟨_, rfl⟩
  replace H : (if l0.length + y162.length < 140737488355328 then ((some (l0 ++ y162 : List Int)).bind fun y165 => (if y165.length + l1.length < 140737488355328 then (stolonref05_rows.l0 k (y165 ++ l1) l2 0) else (none))) else (none)) = some r := by first | (rw [hy162]; with_reducible exact H) | (have H2_ := (Option.bind_some _ _).symm.trans H; rw [hy162]; with_reducible exact H2_) | (have H2_ := (Option.bind_some _ _).symm.trans H; with_reducible exact H2_) | with_reducible exact H | (rw [hy162]; exact H) | exact H
  have Ny162 := Aside0.mk hy162
  clear hy162
  by_cases c4 : l0.length + y162.length < 140737488355328
  · rw [if_pos c4] at H
    have LMc4 := Aside0.mk c4
    clear c4
    obtain ⟨y165, hy165⟩ : ∃ y_ : List Int, y_ = (l0 ++ y162) := ⟨_, rfl⟩
    replace H : (if y165.length + l1.length < 140737488355328 then (stolonref05_rows.l0 k (y165 ++ l1) l2 0) else (none)) = some r := by first | (rw [hy165]; with_reducible exact H) | (have H2_ := (Option.bind_some _ _).symm.trans H; rw [hy165]; with_reducible exact H2_) | (have H2_ := (Option.bind_some _ _).symm.trans H; with_reducible exact H2_) | with_reducible exact H | (rw [hy165]; exact H) | exact H
    have Ny165 := Aside0.mk hy165
    clear hy165
    by_cases c5 : y165.length + l1.length < 140737488355328
    · rw [if_pos c5] at H
      have LMc5 := Aside0.mk c5
      clear c5
      obtain ⟨y168, hy168⟩ : ∃ y_ : List Int, y_ = (y165 ++ l1) := ⟨_, rfl⟩
      replace H : (stolonref05_rows.l0 k y168 l2 0) = some r := by first | (rw [hy168]; with_reducible exact H) | (have H2_ := (Option.bind_some _ _).symm.trans H; rw [hy168]; with_reducible exact H2_) | (have H2_ := (Option.bind_some _ _).symm.trans H; with_reducible exact H2_) | with_reducible exact H | (rw [hy168]; exact H) | exact H
      have Ny168 := Aside0.mk hy168
      clear hy168
      have H' := Aside0.mk H
      clear H
      go_enter Try.func20, Try.ntmps20
      go_wp2_with (first | ((with_reducible refine gate_dst (N := 17) rfl ?_); refine Kd.R_lit (Kd.int .u8) _ 5 ?hg (N := 17) ?hd (xs := ([(wrap64 ((l2.length : Int) / 256)) % 256, (l2.length : Int) % 256] : List Int)) (inner := [.int .u8 ((wrap64 ((l2.length : Int) / 256)) % 256), .int .u8 ((l2.length : Int) % 256)]) (ok := fun _ => True) (okp := fun _ => True) ?hr ?hp (fun _ hk => hk) trivial (Below.refl _ _) (Nat.le_refl _) (by simp) ?_; (case hd => rfl); (case hg => rfl); (case hr => first | (go_simp; done) | (go_simp; rfl)); (case hp => exact (Reps.one (show Kd.M (Kd.int .u8) _ _ _ ((wrap64 ((l2.length : Int) / 256)) % 256) [.int .u8 ((wrap64 ((l2.length : Int) / 256)) % 256)] from rfl) (Reps.one (show Kd.M (Kd.int .u8) _ _ _ ((l2.length : Int) % 256) [.int .u8 ((l2.length : Int) % 256)] from rfl) (Reps.none _ _)))); intro v163 w6 ho7 hb hg_ hnew_; clear hg_ hnew_; (first | rw [← Ny162.out] at ho7 | (simp only [Int.reduceToNat] at ho7; rw [← Ny162.out] at ho7)); have n0_ := Aside0.mk (Kd.R_elder' (by (with_reducible repeat (first | apply Kd.R_alloc | apply Kd.R_drewN | apply Kd.R_drew)); exact HO0.out) (Kd.R_base ho7) hb); have n1_ := Aside0.mk (Kd.R_lower (Kd.R_new' (Kd.R_newM (M := fun k_ => (P0_ k_ ∨ w.heap.size ≤ k_)) ho7 (by first | exact HK.out.1 | exact (show Kept w _ (fun k_ => P0_ k_) from by repeat (first | (with_reducible first | exact HK.out | apply Kept.alloc | apply Kept.drewN | apply Kept.drew) | exact HK.out)).1) (fun k_ h_ => .inr h_)) (Kd.R_lt (by (with_reducible repeat (first | apply Kd.R_alloc | apply Kd.R_drewN | apply Kd.R_drew)); exact HO0.out))) (below_size (by repeat (first | (with_reducible first | exact HB.out | apply below_alloc | apply pw_below_drewN | apply below_drew1) | exact HB.out)))); have n2_ := Aside0.mk (Kept.below (S := (fun k_ => P0_ k_)) (by repeat (first | (with_reducible first | exact HK.out | apply Kept.alloc | apply Kept.drewN | apply Kept.drew) | exact HK.out)) hb); have n3_ := Aside0.mk (below_step (by repeat (first | (with_reducible first | exact HB.out | apply below_alloc | apply pw_below_drewN | apply below_drew1) | exact HB.out)) hb); clear HO0; clear HK; clear HB; have HO0 := n0_; have HO164 := n1_; have HK := n2_; have HB := n3_; clear n0_ n1_ n2_ n3_; clear hb ho7; obtain ⟨Ao9, co9, eo9⟩ := Kd.R_slice HO164.out; subst eo9) | ((with_reducible refine gate_builtin (b := .append) (xs := #[.tmp 8, .tmp 17]) rfl ?_); at_builtin; refine Kd.R_append_rows (Kd.int .u8) (w0 := w0) w0.heap.size rfl (.tmp 8) (.tmp 17) 30 5 (.int .u8 0) 1 rfl Try.underlying30 info5 rfl (by decide) (by omega) u9000_ l0 y162 _ _ _ (fun k_ => (P0_ k_ ∨ w.heap.size ≤ k_) ∧ some k_ ≠ (.slice Ao9 y162.length co9 : Value).ownBlock) (fun _ => False) rfl rfl ?aO ?aR (fun _ _ h => h) (fun _ h => h.elim) ?aF ?aB ?aS ?aL ?_; (case aR => repeat (first | exact (Kd.R_reads' HO164.out).2.2 | (with_reducible refine Kd.C_alloc ?_ _) | (with_reducible refine Kd.C_drewN ?_ _) | (with_reducible refine Kd.C_drew ?_))); (case aB => exact (by repeat (first | (with_reducible first | exact HB.out | apply below_alloc | apply pw_below_drewN | apply below_drew1) | exact HB.out))); (case aF => exact (fun k_ hk => ⟨(.inr (Nat.le_trans (by first | exact HK.out.1 | exact (show Kept w _ (fun k_ => P0_ k_) from by repeat (first | (with_reducible first | exact HK.out | apply Kept.alloc | apply Kept.drewN | apply Kept.drew) | exact HK.out)).1) hk)), Kd.fresh' (Kd.R_lt (by (with_reducible repeat (first | apply Kd.R_alloc | apply Kd.R_drewN | apply Kd.R_drew)); exact HO164.out)) k_ hk⟩)); (case aO => exact (by (with_reducible repeat (first | apply Kd.R_alloc | apply Kd.R_drewN | apply Kd.R_drew)); exact HO0.out)); (case aS => exact (below_size (by repeat (first | (with_reducible first | exact HB.out | apply below_alloc | apply pw_below_drewN | apply below_drew1) | exact HB.out)))); (case aL => have := LMc4.out; omega); intro v166 w8 ho hb hg hat; rw [← Ny165.out] at ho; have n0_ := Aside0.mk (Kd.R_after (ok := (fun k_ => (P0_ k_ ∨ w.heap.size ≤ k_))) (by (with_reducible repeat (first | apply Kd.R_alloc | apply Kd.R_drewN | apply Kd.R_drew)); exact Kd.R_mono HO164.out (fun _ hk => ⟨hk.1.1, hk.2⟩)) hg hat); have n1_ := Aside0.mk (hb); have n2_ := Aside0.mk (Kept.of_grown (S := (fun k_ => P0_ k_)) hg (by repeat (first | (with_reducible first | exact HK.out | apply Kept.alloc | apply Kept.drewN | apply Kept.drew) | exact HK.out)) (fun k_ e_ => (HO0.out.1 k_ e_).1)); have n3_ := Aside0.mk (ho); clear HO164; clear HB; clear HK; clear HO0; have HO164 := n0_; have HB := n1_; have HK := n2_; have HO167 := n3_; clear n0_ n1_ n2_ n3_; clear ho hb hg hat) | ((with_reducible refine gate_builtin (b := .append) (xs := #[.tmp 19, .tmp 20]) rfl ?_); at_builtin; refine Kd.R_append_rows (Kd.int .u8) (w0 := w0) w0.heap.size rfl (.tmp 19) (.tmp 20) 30 5 (.int .u8 0) 1 rfl Try.underlying30 info5 rfl (by decide) (by omega) v166 y165 l1 _ _ _ (fun k_ => (P0_ k_ ∨ w.heap.size ≤ k_) ∧ some k_ ≠ (.slice Ao9 y162.length co9 : Value).ownBlock) (fun _ => False) rfl rfl ?aO ?aR (fun _ _ h => h) (fun _ h => h.elim) ?aF ?aB ?aS ?aL ?_; (case aR => exact Kd.C_kept_now HR1.out (by repeat (first | (with_reducible first | exact HK.out | apply Kept.alloc | apply Kept.drewN | apply Kept.drew) | exact HK.out))); (case aB => exact (by repeat (first | (with_reducible first | exact HB.out | apply below_alloc | apply pw_below_drewN | apply below_drew1) | exact HB.out))); (case aF => exact (fun k_ hk => ⟨(.inr (Nat.le_trans (by first | exact HK.out.1 | exact (show Kept w _ (fun k_ => P0_ k_) from by repeat (first | (with_reducible first | exact HK.out | apply Kept.alloc | apply Kept.drewN | apply Kept.drew) | exact HK.out)).1) hk)), Kd.fresh' (Kd.R_lt (by (with_reducible repeat (first | apply Kd.R_alloc | apply Kd.R_drewN | apply Kd.R_drew)); exact HO164.out)) k_ hk⟩)); (case aO => exact (by (with_reducible repeat (first | apply Kd.R_alloc | apply Kd.R_drewN | apply Kd.R_drew)); exact HO167.out)); (case aS => exact (below_size (by repeat (first | (with_reducible first | exact HB.out | apply below_alloc | apply pw_below_drewN | apply below_drew1) | exact HB.out)))); (case aL => have := LMc5.out; omega); intro v169 w10 ho hb hg hat; rw [← Ny168.out] at ho; have n0_ := Aside0.mk (Kd.R_after (ok := (fun k_ => (P0_ k_ ∨ w.heap.size ≤ k_))) (by (with_reducible repeat (first | apply Kd.R_alloc | apply Kd.R_drewN | apply Kd.R_drew)); exact HO164.out) hg hat); have n1_ := Aside0.mk (hb); have n2_ := Aside0.mk (Kept.of_grown (S := (fun k_ => P0_ k_)) hg (by repeat (first | (with_reducible first | exact HK.out | apply Kept.alloc | apply Kept.drewN | apply Kept.drew) | exact HK.out)) (fun k_ e_ => (HO167.out.1 k_ e_).1)); have n3_ := Aside0.mk (ho); clear HO164; clear HB; clear HK; clear HO167; have HO164 := n0_; have HB := n1_; have HK := n2_; have HO170 := n3_; clear n0_ n1_ n2_ n3_; clear ho hb hg hat))
      go_loopg [0, 7] k (fun kq v0 v7 w' => ∃ (x0_1 : List Int) (x7_1 : Int), v7 = .int .i64 x7_1 ∧ Aside0 (stolonref05_rows.l0 kq x0_1 l2 x7_1 = some r) ∧ Aside0 (kq ≤ k) ∧ Aside0 (Kd.R (Kd.int .u8) 5 w' w0.heap.size (fun k_ => (P0_ k_ ∨ w.heap.size ≤ k_)) v0 x0_1) ∧ Aside0 (Kept w w' (fun k_ => P0_ k_)) ∧ Aside0 (Below w0.heap.size w0 w'))
      case atStart => exact ⟨(y168), (0), (by first | rfl | (simp; done) | (simp [*]; done)), H', ⟨Nat.le_refl _⟩, ⟨by (with_reducible repeat (first | apply Kd.R_alloc | apply Kd.R_drewN | apply Kd.R_drew)); exact Kd.R_mono HO170.out (fun _ hk => hk.1)⟩, ⟨by repeat (first | (with_reducible first | exact HK.out | apply Kept.alloc | apply Kept.drewN | apply Kept.drew) | exact HK.out)⟩, ⟨by repeat (first | (with_reducible first | exact HB.out | apply below_alloc | apply pw_below_drewN | apply below_drew1) | exact HB.out)⟩⟩
      case round =>
        clear H'
        try clear c1
        try clear c2
        try clear p2
        try clear c4
        try clear c5
        try clear p6
        obtain ⟨x0_1, x7_1, rfl, HA, HK1, HO_0, HK, HB⟩ := hrel
        cases gk with
        | zero => exact absurd HA.out (by simp [stolonref05_rows.l0])
        | succ k1 =>
          have H := HA.out
          clear HA
          simp only [stolonref05_rows.l0] at H
          by_cases c11 : x7_1 < (l2.length : Int)
          · rw [if_pos c11] at H
            have c11b0 : decide (x7_1 < (l2.length : Int)) = true := decide_eq_true c11
            clear c11
            by_cases c12 : 0 ≤ x7_1
            · rw [if_pos c12] at H
              have c12b0 : decide (0 ≤ x7_1) = true := decide_eq_true c12
              clear c12
              replace H := Option.bind_eq_some_iff.mp H
              obtain ⟨t172, A130, H⟩ := H
              replace H : (if x0_1.length + t172.length < 140737488355328 then (stolonref05_rows.l0 k1 (x0_1 ++ t172) l2 (wrap64 (x7_1 + 1))) else (none)) = some r := H
              have A13 := Aside0.mk A130
              clear A130
              by_cases c14 : x0_1.length + t172.length < 140737488355328
              · rw [if_pos c14] at H
                have LMc14 := Aside0.mk c14
                clear c14
                obtain ⟨y175, hy175⟩ : ∃ y_ : List Int, y_ = (x0_1 ++ t172) := ⟨_, rfl⟩
                replace H : (stolonref05_rows.l0 k1 y175 l2 (wrap64 (x7_1 + 1))) = some r := by first | (rw [hy175]; with_reducible exact H) | (have H2_ := (Option.bind_some _ _).symm.trans H; rw [hy175]; with_reducible exact H2_) | (have H2_ := (Option.bind_some _ _).symm.trans H; with_reducible exact H2_) | with_reducible exact H | (rw [hy175]; exact H) | exact H
                have Ny175 := Aside0.mk hy175
                clear hy175
                have H' := Aside0.mk H
                clear H
                have p171 : 0 ≤ (x7_1 : Int) := of_decide_eq_true (by first | (with_reducible assumption) | assumption)
                have q171 : x7_1 < (l2.length : Int) := of_decide_eq_true (by first | (with_reducible assumption) | assumption)
                obtain ⟨ad171, e171, hx171_0⟩ := Kd.at_int (Kd.C_kept_now HR2.out HK.out) x7_1 p171 q171
                cases e171
                replace p171 := eq_true p171
                replace q171 := eq_true q171
                go_wp2_with (first | ((with_reducible refine gate_callee (f := 21) rfl ?_); refine goesL_ (some 33) rfl rfl Try.func21 (by kernel_rfl) rfl #[.int .u32 (rd l2 x7_1)] rfl (by (try simp only [List.map_toArray, List.map_cons, List.map_nil]); first | done | rfl | (simp only [List.length_drop, List.length_take]; rfl)) ?_; (with_reducible refine (stolonref01_Bytes.calls (rd l2 x7_1) t172 _ A13.out).mono ?_); rintro e w15 ⟨v173, rfl, ho0, hb⟩; refine ⟨_, rfl, ?_⟩; have n0_ := Aside0.mk (Kd.R_elder' (by (with_reducible repeat (first | apply Kd.R_alloc | apply Kd.R_drewN | apply Kd.R_drew)); exact HO_0.out) (Kd.R_base ho0) hb); have n1_ := Aside0.mk (Kd.R_lower (Kd.R_new' (Kd.R_newM (M := fun k_ => (P0_ k_ ∨ w.heap.size ≤ k_)) ho0 (by first | exact HK.out.1 | exact (show Kept w _ (fun k_ => P0_ k_) from by repeat (first | (with_reducible first | exact HK.out | apply Kept.alloc | apply Kept.drewN | apply Kept.drew) | exact HK.out)).1) (fun k_ h_ => .inr h_)) (Kd.R_lt (by (with_reducible repeat (first | apply Kd.R_alloc | apply Kd.R_drewN | apply Kd.R_drew)); exact HO_0.out))) (below_size (by repeat (first | (with_reducible first | exact HB.out | apply below_alloc | apply pw_below_drewN | apply below_drew1) | exact HB.out)))); have n2_ := Aside0.mk (Kept.below (S := (fun k_ => P0_ k_)) (by repeat (first | (with_reducible first | exact HK.out | apply Kept.alloc | apply Kept.drewN | apply Kept.drew) | exact HK.out)) hb); have n3_ := Aside0.mk (below_step (by repeat (first | (with_reducible first | exact HB.out | apply below_alloc | apply pw_below_drewN | apply below_drew1) | exact HB.out)) hb); clear HO_0; clear HK; clear HB; have HO_0 := n0_; have HO174 := n1_; have HK := n2_; have HB := n3_; clear n0_ n1_ n2_ n3_; (try clear hb); (try clear hb2); (try clear hk); (try clear hi); (try clear ho0); obtain ⟨Ao17, co17, eo17⟩ := Kd.R_slice HO174.out; subst eo17) | ((with_reducible refine gate_builtin (b := .append) (xs := #[.tmp 28, .tmp 33]) rfl ?_); at_builtin; refine Kd.R_append_rows (Kd.int .u8) (w0 := w0) w0.heap.size rfl (.tmp 28) (.tmp 33) 30 5 (.int .u8 0) 1 rfl Try.underlying30 info5 rfl (by decide) (by omega) u0 x0_1 t172 _ _ _ (fun k_ => (P0_ k_ ∨ w.heap.size ≤ k_) ∧ some k_ ≠ (.slice Ao17 t172.length co17 : Value).ownBlock) (fun _ => False) rfl rfl ?aO ?aR (fun _ _ h => h) (fun _ h => h.elim) ?aF ?aB ?aS ?aL ?_; (case aR => repeat (first | exact (Kd.R_reads' HO174.out).2.2 | (with_reducible refine Kd.C_alloc ?_ _) | (with_reducible refine Kd.C_drewN ?_ _) | (with_reducible refine Kd.C_drew ?_))); (case aB => exact (by repeat (first | (with_reducible first | exact HB.out | apply below_alloc | apply pw_below_drewN | apply below_drew1) | exact HB.out))); (case aF => exact (fun k_ hk => ⟨(.inr (Nat.le_trans (by first | exact HK.out.1 | exact (show Kept w _ (fun k_ => P0_ k_) from by repeat (first | (with_reducible first | exact HK.out | apply Kept.alloc | apply Kept.drewN | apply Kept.drew) | exact HK.out)).1) hk)), Kd.fresh' (Kd.R_lt (by (with_reducible repeat (first | apply Kd.R_alloc | apply Kd.R_drewN | apply Kd.R_drew)); exact HO174.out)) k_ hk⟩)); (case aO => exact (by (with_reducible repeat (first | apply Kd.R_alloc | apply Kd.R_drewN | apply Kd.R_drew)); exact HO_0.out)); (case aS => exact (below_size (by repeat (first | (with_reducible first | exact HB.out | apply below_alloc | apply pw_below_drewN | apply below_drew1) | exact HB.out)))); (case aL => have := LMc14.out; omega); intro v176 w16 ho hb hg hat; rw [← Ny175.out] at ho; have n0_ := Aside0.mk (Kd.R_after (ok := (fun k_ => (P0_ k_ ∨ w.heap.size ≤ k_))) (by (with_reducible repeat (first | apply Kd.R_alloc | apply Kd.R_drewN | apply Kd.R_drew)); exact Kd.R_mono HO174.out (fun _ hk => ⟨hk.1.1, hk.2⟩)) hg hat); have n1_ := Aside0.mk (hb); have n2_ := Aside0.mk (Kept.of_grown (S := (fun k_ => P0_ k_)) hg (by repeat (first | (with_reducible first | exact HK.out | apply Kept.alloc | apply Kept.drewN | apply Kept.drew) | exact HK.out)) (fun k_ e_ => (HO_0.out.1 k_ e_).1)); have n3_ := Aside0.mk (ho); clear HO174; clear HB; clear HK; clear HO_0; have HO174 := n0_; have HB := n1_; have HK := n2_; have HO177 := n3_; clear n0_ n1_ n2_ n3_; clear ho hb hg hat))
                go_roundg k1
                case measure => have := HK1.out; omega
                case rel => exact ⟨(y175), (wrap64 (x7_1 + 1)), (by first | rfl | (simp; done) | (simp [*]; done)), H', ⟨by have := HK1.out; omega⟩, ⟨by (with_reducible repeat (first | apply Kd.R_alloc | apply Kd.R_drewN | apply Kd.R_drew)); exact Kd.R_mono HO177.out (fun _ hk => hk.1)⟩, ⟨by repeat (first | (with_reducible first | exact HK.out | apply Kept.alloc | apply Kept.drewN | apply Kept.drew) | exact HK.out)⟩, ⟨by repeat (first | (with_reducible first | exact HB.out | apply below_alloc | apply pw_below_drewN | apply below_drew1) | exact HB.out)⟩⟩
              · rw [if_neg c14] at H
                exact absurd H (by simp)
            · rw [if_neg c12] at H
              exact absurd H (by simp)
          · rw [if_neg c11] at H
            have c11b0 : decide (x7_1 < (l2.length : Int)) = false := decide_eq_false c11
            clear c11
            obtain rfl := Option.some.inj H
            go_wp2
            go_ret
            exact ⟨_, by first | rfl | (simp [errW_none, errW_some] <;> rfl) | (simp [*, errW_none, errW_some] <;> rfl), by (with_reducible repeat (first | apply Kd.R_alloc | apply Kd.R_drewN | apply Kd.R_drew)); exact HO_0.out, by repeat (first | (with_reducible first | exact HB.out | apply below_alloc | apply pw_below_drewN | apply below_drew1) | exact HB.out), by repeat (first | (with_reducible first | exact HK.out | apply Kept.alloc | apply Kept.drewN | apply Kept.drew) | exact HK.out)⟩
    · rw [if_neg c5] at H
      exact absurd H (by simp)
  · rw [if_neg c4] at H
    exact absurd H (by simp)

end Go.Proofs.Ytafmjhmpnlkeiaa.P

/- Printed by myprint.py, a program of this session, over the kit's print. -/
namespace Go.Proofs.Ytafmjhmpnlkeiaa.P
open Go.RowKit Go.Proofs.YtafmjhmpnlkeiaaW.PrintWords Go.Proofs.YtafmjhmpnlkeiaaW.PrintLast Go.Proofs.YtafmjhmpnlkeiaaW.PrintMore
attribute [local go_sem] max2_int min2_int max_two min_two max_three min_three max_four min_four   -- for this text's walks alone
set_option linter.unusedVariables false
set_option linter.unusedSimpArgs false

/-! ### stolonref02_Join: function 53 -/
def stolonref02_Join.f (a0 : Int) (a1 : Int) : Option (Int) := if (wrap64 ((wrap64 (a0)) + (wrap64 (a1)))) ≥ 65536 then (some (IntKind.u16.wrap (wrap64 ((wrap64 ((wrap64 ((wrap64 (a0)) + (wrap64 (a1)))) - 65536)) + 1)))) else (some (IntKind.u16.wrap (wrap64 ((wrap64 (a0)) + (wrap64 (a1))))))
set_option maxHeartbeats 8000000 in
set_option maxRecDepth 100000 in
theorem stolonref02_Join.calls (a0 : Int) (a1 : Int) (r : Int) (w : World) (h : stolonref02_Join.f a0 a1 = some r) :
    Calls Try.prog 53 #[.int .u16 a0, .int .u16 a1] w fun e w' => e = .returned (.int .u16 r) ∧ Drawn0 w w' := by
  have H : (if (wrap64 ((wrap64 (a0)) + (wrap64 (a1)))) ≥ 65536 then (some (IntKind.u16.wrap (wrap64 ((wrap64 ((wrap64 ((wrap64 (a0)) + (wrap64 (a1)))) - 65536)) + 1)))) else (some (IntKind.u16.wrap (wrap64 ((wrap64 (a0)) + (wrap64 (a1))))))) = some r := h
  clear h
  by_cases c3 : (wrap64 ((wrap64 (a0)) + (wrap64 (a1)))) ≥ 65536
  · rw [if_pos c3] at H
    have c3b0 : decide (65536 ≤ (wrap64 ((wrap64 (a0)) + (wrap64 (a1))))) = true := decide_eq_true c3
    clear c3
    obtain rfl := Option.some.inj H
    go_enter Try.func53, Try.ntmps53
    go_wp2
    go_ret
    exact ⟨by first | rfl | (simp; done) | (simp [*]; done), by repeat (first | exact Drawn0.refl _ | apply Drawn0.step)⟩
  · rw [if_neg c3] at H
    have c3b0 : decide (65536 ≤ (wrap64 ((wrap64 (a0)) + (wrap64 (a1))))) = false := decide_eq_false c3
    clear c3
    obtain rfl := Option.some.inj H
    go_enter Try.func53, Try.ntmps53
    go_wp2
    go_ret
    exact ⟨by first | rfl | (simp; done) | (simp [*]; done), by repeat (first | exact Drawn0.refl _ | apply Drawn0.step)⟩

end Go.Proofs.Ytafmjhmpnlkeiaa.P

/- Printed by myprint.py, a program of this session, over the kit's print. -/
namespace Go.Proofs.Ytafmjhmpnlkeiaa.P
open Go.RowKit Go.Proofs.YtafmjhmpnlkeiaaW.PrintWords Go.Proofs.YtafmjhmpnlkeiaaW.PrintLast Go.Proofs.YtafmjhmpnlkeiaaW.PrintMore
attribute [local go_sem] max2_int min2_int max_two min_two max_three min_three max_four min_four   -- for this text's walks alone
set_option linter.unusedVariables false
set_option linter.unusedSimpArgs false

/-! ### stolonref02_Of: function 38 -/
def stolonref02_Of.l0 : Nat → List Int → Int → Int → Option (Int)
  | 0, _, _, _ => none
  | k + 1, x0, x3, x4 => if x4 < (x0.length : Int) then (if 0 ≤ x4 then (if (wrap64 (x4 + 1)) < (x0.length : Int) then (if 0 ≤ (wrap64 (x4 + 1)) then ((stolonref02_Join.f x3 (IntKind.u16.wrap (wrap64 ((wrap64 ((wrap64 (rd x0 x4)) * 256)) + (wrap64 (rd x0 (wrap64 (x4 + 1)))))))).bind fun t180 => (stolonref02_Of.l0 k x0 t180 (wrap64 (x4 + 2)))) else (none)) else ((stolonref02_Join.f x3 (IntKind.u16.wrap (wrap64 ((wrap64 (rd x0 x4)) * 256)))).bind fun t181 => (stolonref02_Of.l0 k x0 t181 (wrap64 (x4 + 2))))) else (none)) else (some (IntKind.u16.wrap (65535 - x3)))
def stolonref02_Of.f (k : Nat) (l0 : List Int) : Option (Int) := stolonref02_Of.l0 k l0 0 0
theorem stolonref02_Of.mono_l : ∀ k, (∀ y0 y1 y2, LeO (stolonref02_Of.l0 k y0 y1 y2) (stolonref02_Of.l0 (k + 1) y0 y1 y2))
  | 0 => fun _ _ _ r h => by simp [stolonref02_Of.l0] at h
  | k + 1 => by
    have ih0 := stolonref02_Of.mono_l k
    · intro y0 y1 y2
      unfold stolonref02_Of.l0
      repeat' first
      | (with_reducible exact ih0 _ _ _)
      | (with_reducible exact LeO.refl _)
      | (with_reducible exact LeO.none _)
      | (with_reducible refine LeO.ite ?_ ?_)
      | (with_reducible refine LeO.bind ?_ (fun _ => ?_))
      | exact ih0 _ _ _
      | exact LeO.none _
      | refine LeO.ite ?_ ?_
      | refine LeO.bind ?_ (fun _ => ?_)
theorem stolonref02_Of.mono : ∀ a0 k, LeO (stolonref02_Of.f k a0) (stolonref02_Of.f (k + 1) a0) := by
  intro a0 k
  have ih0 := stolonref02_Of.mono_l k
  unfold stolonref02_Of.f
  repeat' first
      | (with_reducible exact ih0 _ _ _)
      | (with_reducible exact LeO.refl _)
      | (with_reducible exact LeO.none _)
      | (with_reducible refine LeO.ite ?_ ?_)
      | (with_reducible refine LeO.bind ?_ (fun _ => ?_))
      | exact ih0 _ _ _
      | exact LeO.none _
      | refine LeO.ite ?_ ?_
      | refine LeO.bind ?_ (fun _ => ?_)
set_option maxHeartbeats 8000000 in
set_option maxRecDepth 100000 in
theorem stolonref02_Of.calls (k : Nat) (A0 : Option Addr) (c0 : Nat) (l0 : List Int) (r : Int) (w : World) (hr0 : Kd.C (Kd.int .u8) w A0 l0.length l0) (hc0 : l0.length ≤ c0) (h : stolonref02_Of.f k l0 = some r) :
    Calls Try.prog 38 #[.slice A0 l0.length c0] w fun e w' => e = .returned (.int .u16 r) ∧ Drawn0 w w' := by
  have HR0 := Aside0.mk hr0
  have HC0 := Aside0.mk hc0
  clear hr0 hc0
  have H : (stolonref02_Of.l0 k l0 0 0) = some r := h
  clear h
  have H' := Aside0.mk H
  clear H
  go_enter Try.func38, Try.ntmps38
  go_wp2
  go_loopg [3, 4] k (fun kq v3 v4 w' => ∃ (x3_1 : Int) (x4_1 : Int), v3 = .int .u16 x3_1 ∧ v4 = .int .i64 x4_1 ∧ Aside0 (stolonref02_Of.l0 kq l0 x3_1 x4_1 = some r) ∧ Aside0 (kq ≤ k) ∧ Drawn0 w w')
  case atStart => exact ⟨(0), (0), (by first | rfl | (simp; done) | (simp [*]; done)), (by first | rfl | (simp; done) | (simp [*]; done)), H', ⟨Nat.le_refl _⟩, by repeat (first | exact Drawn0.refl _ | apply Drawn0.step)⟩
  case round =>
    clear H'
    obtain ⟨x3_1, x4_1, rfl, rfl, HA, HK1, ⟨m1, rfl⟩⟩ := hrel
    cases gk with
    | zero => exact absurd HA.out (by simp [stolonref02_Of.l0])
    | succ k1 =>
      have H := HA.out
      clear HA
      simp only [stolonref02_Of.l0] at H
      by_cases c2 : x4_1 < (l0.length : Int)
      · rw [if_pos c2] at H
        have c2b0 : decide (x4_1 < (l0.length : Int)) = true := decide_eq_true c2
        clear c2
        by_cases c3 : 0 ≤ x4_1
        · rw [if_pos c3] at H
          have c3b0 : decide (0 ≤ x4_1) = true := decide_eq_true c3
          clear c3
          by_cases c4 : (wrap64 (x4_1 + 1)) < (l0.length : Int)
          · rw [if_pos c4] at H
            have c4b0 : decide ((wrap64 (x4_1 + 1)) < (l0.length : Int)) = true := decide_eq_true c4
            clear c4
            obtain ⟨ji5, hji5⟩ : ∃ j_ : Int, (wrap64 (x4_1 + 1)) = j_ := ⟨_, rfl⟩
            replace H : (if 0 ≤ (ji5) then ((stolonref02_Join.f x3_1 (IntKind.u16.wrap (wrap64 ((wrap64 ((wrap64 (rd l0 x4_1)) * 256)) + (wrap64 (rd l0 (ji5))))))).bind fun t180 => (stolonref02_Of.l0 k1 l0 t180 (wrap64 (x4_1 + 2)))) else (none)) = some r := by first | (rw [hji5] at H; exact H) | (simp only [hji5] at H ⊢; exact H)
            (try rw [hji5] at c4b0)
            have hji5w : (IntKind.i64.wrap (x4_1 + 1)) = ji5 := (i64_w _).trans hji5
            by_cases c6 : 0 ≤ (ji5)
            · rw [if_pos c6] at H
              have c6b0 : decide (0 ≤ (ji5)) = true := decide_eq_true c6
              clear c6
              replace H := Option.bind_eq_some_iff.mp H
              obtain ⟨t180, A70, H⟩ := H
              replace H : (stolonref02_Of.l0 k1 l0 t180 (wrap64 (x4_1 + 2))) = some r := H
              have A7 := Aside0.mk A70
              clear A70
              have H' := Aside0.mk H
              clear H
              have p178 : 0 ≤ (x4_1 : Int) := of_decide_eq_true (by first | (with_reducible assumption) | assumption)
              have q178 : x4_1 < (l0.length : Int) := of_decide_eq_true (by first | (with_reducible assumption) | assumption)
              obtain ⟨ad178, e178, hx178_0⟩ := Kd.at_int HR0.out x4_1 p178 q178
              cases e178
              replace p178 := eq_true p178
              replace q178 := eq_true q178
              have p179 : 0 ≤ ((ji5) : Int) := of_decide_eq_true (by first | (with_reducible assumption) | assumption)
              have q179 : (ji5) < (l0.length : Int) := of_decide_eq_true (by first | (with_reducible assumption) | assumption)
              obtain ⟨ad179, e179, hx179_0⟩ := Kd.at_int HR0.out (ji5) p179 q179
              obtain rfl : ad178 = ad179 := (by injection e179)
              replace p179 := eq_true p179
              replace q179 := eq_true q179
              go_wp2_with (first | ((with_reducible refine gate_callee (f := 53) rfl ?_); refine goesL_ (some 34) rfl rfl Try.func53 (by kernel_rfl) rfl #[.int .u16 x3_1, .int .u16 (IntKind.u16.wrap (wrap64 ((wrap64 ((wrap64 (rd l0 x4_1)) * 256)) + (wrap64 (rd l0 (ji5))))))] rfl (by (try simp only [List.map_toArray, List.map_cons, List.map_nil]); first | done | (simp only [hji5]; rfl) | rfl | (simp only [List.length_drop, List.length_take]; rfl)) ?_; (with_reducible refine (stolonref02_Join.calls x3_1 (IntKind.u16.wrap (wrap64 ((wrap64 ((wrap64 (rd l0 x4_1)) * 256)) + (wrap64 (rd l0 (ji5)))))) t180 _ A7.out).mono ?_); rintro e w' ⟨rfl, ⟨nd, rfl⟩⟩; refine ⟨_, rfl, ?_⟩))
              go_roundg k1
              case measure => have := HK1.out; omega
              case rel => exact ⟨(t180), (wrap64 (x4_1 + 2)), (by first | rfl | (simp; done) | (simp [*]; done)), (by first | rfl | (simp; done) | (simp [*]; done)), H', ⟨by have := HK1.out; omega⟩, by repeat (first | exact Drawn0.refl _ | apply Drawn0.step)⟩
            · rw [if_neg c6] at H
              exact absurd H (by simp)
          · rw [if_neg c4] at H
            have c4b0 : decide ((wrap64 (x4_1 + 1)) < (l0.length : Int)) = false := decide_eq_false c4
            clear c4
            replace H := Option.bind_eq_some_iff.mp H
            obtain ⟨t181, A80, H⟩ := H
            replace H : (stolonref02_Of.l0 k1 l0 t181 (wrap64 (x4_1 + 2))) = some r := H
            have A8 := Aside0.mk A80
            clear A80
            have H' := Aside0.mk H
            clear H
            have p178 : 0 ≤ (x4_1 : Int) := of_decide_eq_true (by first | (with_reducible assumption) | assumption)
            have q178 : x4_1 < (l0.length : Int) := of_decide_eq_true (by first | (with_reducible assumption) | assumption)
            obtain ⟨ad178, e178, hx178_0⟩ := Kd.at_int HR0.out x4_1 p178 q178
            cases e178
            replace p178 := eq_true p178
            replace q178 := eq_true q178
            go_wp2_with (first | ((with_reducible refine gate_callee (f := 53) rfl ?_); refine goesL_ (some 34) rfl rfl Try.func53 (by kernel_rfl) rfl #[.int .u16 x3_1, .int .u16 (IntKind.u16.wrap (wrap64 ((wrap64 (rd l0 x4_1)) * 256)))] rfl (by (try simp only [List.map_toArray, List.map_cons, List.map_nil]); first | done | rfl | (simp only [List.length_drop, List.length_take]; rfl)) ?_; (with_reducible refine (stolonref02_Join.calls x3_1 (IntKind.u16.wrap (wrap64 ((wrap64 (rd l0 x4_1)) * 256))) t181 _ A8.out).mono ?_); rintro e w' ⟨rfl, ⟨nd, rfl⟩⟩; refine ⟨_, rfl, ?_⟩))
            go_roundg k1
            case measure => have := HK1.out; omega
            case rel => exact ⟨(t181), (wrap64 (x4_1 + 2)), (by first | rfl | (simp; done) | (simp [*]; done)), (by first | rfl | (simp; done) | (simp [*]; done)), H', ⟨by have := HK1.out; omega⟩, by repeat (first | exact Drawn0.refl _ | apply Drawn0.step)⟩
        · rw [if_neg c3] at H
          exact absurd H (by simp)
      · rw [if_neg c2] at H
        have c2b0 : decide (x4_1 < (l0.length : Int)) = false := decide_eq_false c2
        clear c2
        obtain rfl := Option.some.inj H
        go_wp2
        go_ret
        exact ⟨by first | rfl | (simp; done) | (simp [*]; done), by repeat (first | exact Drawn0.refl _ | apply Drawn0.step)⟩

end Go.Proofs.Ytafmjhmpnlkeiaa.P

/- Printed by myprint.py, a program of this session, over the kit's print. -/
namespace Go.Proofs.Ytafmjhmpnlkeiaa.P
open Go.RowKit Go.Proofs.YtafmjhmpnlkeiaaW.PrintWords Go.Proofs.YtafmjhmpnlkeiaaW.PrintLast Go.Proofs.YtafmjhmpnlkeiaaW.PrintMore
attribute [local go_sem] max2_int min2_int max_two min_two max_three min_three max_four min_four   -- for this text's walks alone
set_option linter.unusedVariables false
set_option linter.unusedSimpArgs false

/-! ### stolonref02_Put: function 22 -/
mutual
def stolonref02_Put.j0 : Nat → List Int → Int → Bool → Option (List Int × Int)
  | 0, _, _, _ => none
  | k + 1, x0, x1, x22 => if x22 = true then (some (([] : List Int), 1)) else (stolonref02_Put.l0 k x0 x1 ([] : List Int) 0)
def stolonref02_Put.l0 : Nat → List Int → Int → List Int → Int → Option (List Int × Int)
  | 0, _, _, _, _ => none
  | k + 1, x0, x1, x6, x7 => if x7 < (x0.length : Int) then (if x7 = x1 then (if x6.length < 140737488355328 then (stolonref02_Put.l0 k x0 x1 (x6 ++ [0]) (wrap64 (x7 + 1))) else (none)) else (if x7 = (wrap64 (x1 + 1)) then (if x6.length < 140737488355328 then (stolonref02_Put.l0 k x0 x1 (x6 ++ [0]) (wrap64 (x7 + 1))) else (none)) else (if 0 ≤ x7 then (if x6.length < 140737488355328 then (stolonref02_Put.l0 k x0 x1 (x6 ++ [rd x0 x7]) (wrap64 (x7 + 1))) else (none)) else (none)))) else ((stolonref02_Of.f k x6).bind fun t182 => (if 0 ≤ x1 then (if x1 < (x6.length : Int) then (if 0 ≤ (wrap64 (x1 + 1)) then (if (wrap64 (x1 + 1)) < (x6.length : Int) then (some (((x6.set (x1 : Int).toNat ((IntKind.u16.wrap (Int.tdiv t182 256)) % 256)).set ((wrap64 (x1 + 1)) : Int).toNat ((Int.tmod t182 256) % 256)), 0)) else (none)) else (none)) else (none)) else (none)))
end
def stolonref02_Put.f (k : Nat) (l0 : List Int) (a1 : Int) : Option (List Int × Int) := if a1 < 0 then (stolonref02_Put.j0 k l0 a1 true) else (if (Int.tmod a1 2) = 1 then (stolonref02_Put.j0 k l0 a1 true) else (stolonref02_Put.j0 k l0 a1 (decide (a1 > (wrap64 ((l0.length : Int) - 2))))))
theorem stolonref02_Put.mono_l : ∀ k, (∀ y0 y1 y2, LeO (stolonref02_Put.j0 k y0 y1 y2) (stolonref02_Put.j0 (k + 1) y0 y1 y2)) ∧ (∀ y0 y1 y2 y3, LeO (stolonref02_Put.l0 k y0 y1 y2 y3) (stolonref02_Put.l0 (k + 1) y0 y1 y2 y3))
  | 0 => ⟨fun _ _ _ r h => by simp [stolonref02_Put.j0] at h, fun _ _ _ _ r h => by simp [stolonref02_Put.l0] at h⟩
  | k + 1 => by
    obtain ⟨ih0, ih1⟩ := stolonref02_Put.mono_l k
    refine ⟨?_, ?_⟩
    · intro y0 y1 y2
      unfold stolonref02_Put.j0
      repeat' first
      | (with_reducible exact ih0 _ _ _)
      | (with_reducible exact ih1 _ _ _ _)
      | (with_reducible exact stolonref02_Of.mono _ _)
      | (with_reducible exact LeO.refl _)
      | (with_reducible exact LeO.none _)
      | (with_reducible refine LeO.ite ?_ ?_)
      | (with_reducible refine LeO.bind ?_ (fun _ => ?_))
      | exact ih0 _ _ _
      | exact ih1 _ _ _ _
      | exact stolonref02_Of.mono _ _
      | exact LeO.none _
      | refine LeO.ite ?_ ?_
      | refine LeO.bind ?_ (fun _ => ?_)
    · intro y0 y1 y2 y3
      unfold stolonref02_Put.l0
      repeat' first
      | (with_reducible exact ih0 _ _ _)
      | (with_reducible exact ih1 _ _ _ _)
      | (with_reducible exact stolonref02_Of.mono _ _)
      | (with_reducible exact LeO.refl _)
      | (with_reducible exact LeO.none _)
      | (with_reducible refine LeO.ite ?_ ?_)
      | (with_reducible refine LeO.bind ?_ (fun _ => ?_))
      | exact ih0 _ _ _
      | exact ih1 _ _ _ _
      | exact stolonref02_Of.mono _ _
      | exact LeO.none _
      | refine LeO.ite ?_ ?_
      | refine LeO.bind ?_ (fun _ => ?_)
theorem stolonref02_Put.mono : ∀ a0 a1 k, LeO (stolonref02_Put.f k a0 a1) (stolonref02_Put.f (k + 1) a0 a1) := by
  intro a0 a1 k
  obtain ⟨ih0, ih1⟩ := stolonref02_Put.mono_l k
  unfold stolonref02_Put.f
  repeat' first
      | (with_reducible exact ih0 _ _ _)
      | (with_reducible exact ih1 _ _ _ _)
      | (with_reducible exact stolonref02_Of.mono _ _)
      | (with_reducible exact LeO.refl _)
      | (with_reducible exact LeO.none _)
      | (with_reducible refine LeO.ite ?_ ?_)
      | (with_reducible refine LeO.bind ?_ (fun _ => ?_))
      | exact ih0 _ _ _
      | exact ih1 _ _ _ _
      | exact stolonref02_Of.mono _ _
      | exact LeO.none _
      | refine LeO.ite ?_ ?_
      | refine LeO.bind ?_ (fun _ => ?_)
set_option maxHeartbeats 8000000 in
set_option maxRecDepth 100000 in
theorem stolonref02_Put.calls (k : Nat) (A0 : Option Addr) (c0 : Nat) (l0 : List Int) (a1 : Int) (r1 : List Int) (r2 : Int) (w : World) (hr0 : Kd.C (Kd.int .u8) w A0 l0.length l0) (hc0 : l0.length ≤ c0) (h : stolonref02_Put.f k l0 a1 = some (r1, r2)) :
    Calls Try.prog 22 #[.slice A0 l0.length c0, .int .i64 a1] w fun e w' => ∃ v0_ : Value, e = .returned (.tuple #[v0_, .int .i64 r2]) ∧ Kd.R (Kd.int .u8) 5 w' w.heap.size (fun _ => True) v0_ r1 ∧ Below w.heap.size w w' := by
  have HR0 := Aside0.mk hr0
  have HC0 := Aside0.mk hc0
  clear hr0 hc0
  have HB := Aside0.mk (Below.refl w.heap.size w)
  have H : (if a1 < 0 then (stolonref02_Put.j0 k l0 a1 true) else (if (Int.tmod a1 2) = 1 then (stolonref02_Put.j0 k l0 a1 true) else (stolonref02_Put.j0 k l0 a1 (decide (a1 > (wrap64 ((l0.length : Int) - 2))))))) = some (r1, r2) := h
  clear h
  have HC3 := Aside0.mk H
  clear H
  go_enter Try.func22, Try.ntmps22
  go_upto_region 1 with (fail)
  go_cut [22] (fun v22 wc => ∃ (kq : Nat) (x22_2 : Bool), v22 = .bool x22_2 ∧ Aside0 (stolonref02_Put.j0 kq l0 a1 x22_2 = some (r1, r2)) ∧ Aside0 (kq ≤ k) ∧ Aside0 (Below w.heap.size w wc))
  case first =>
    have H := HC3.out
    clear HC3
    by_cases c4 : a1 < 0
    · rw [if_pos c4] at H
      have c4b0 : decide (a1 < 0) = true := decide_eq_true c4
      clear c4
      (first | rw [c4b0] | (simp only [i64_w, i32_w]; rw [c4b0]) | skip)
      have H' := Aside0.mk H
      clear H
      go_wp2
      go_meet
      case rel => exact ⟨_, (true), (by first | rfl | (simp; done) | (simp [*]; done)), H', ⟨by first | omega | exact Nat.le_refl _⟩, ⟨by repeat (first | (with_reducible first | exact HB.out | apply below_alloc | apply pw_below_drewN | apply below_drew1) | exact HB.out)⟩⟩
    · rw [if_neg c4] at H
      have c4b0 : decide (a1 < 0) = false := decide_eq_false c4
      clear c4
      (first | rw [c4b0] | (simp only [i64_w, i32_w]; rw [c4b0]) | skip)
      by_cases c5 : (Int.tmod a1 2) = 1
      · rw [if_pos c5] at H
        have c5b0 : ((Int.tmod a1 2) == 1) = true := beq_iff_eq.mpr c5
        have c5b1 : ((Int.tmod a1 2) != 1) = false := bne_eq_false_iff_eq.mpr c5
        clear c5
        have H' := Aside0.mk H
        clear H
        go_wp2
        go_meet
        case rel => exact ⟨_, (true), (by first | rfl | (simp; done) | (simp [*]; done)), H', ⟨by first | omega | exact Nat.le_refl _⟩, ⟨by repeat (first | (with_reducible first | exact HB.out | apply below_alloc | apply pw_below_drewN | apply below_drew1) | exact HB.out)⟩⟩
      · rw [if_neg c5] at H
        have c5b0 : ((Int.tmod a1 2) == 1) = false := beq_eq_false_iff_ne.mpr c5
        have c5b1 : ((Int.tmod a1 2) != 1) = true := bne_iff_ne.mpr c5
        have H' := Aside0.mk H
        clear H
        go_wp2
        go_meet
        case rel => exact ⟨_, (decide (a1 > (wrap64 ((l0.length : Int) - 2)))), (by first | rfl | (simp; done) | (simp [*]; done)), H', ⟨by first | omega | exact Nat.le_refl _⟩, ⟨by repeat (first | (with_reducible first | exact HB.out | apply below_alloc | apply pw_below_drewN | apply below_drew1) | exact HB.out)⟩⟩
  case rest =>
    clear HC3
    try clear c2
    try clear p2
    try clear c4
    try clear c4b0
    try clear c5
    try clear c5b0
    try clear c5b1
    obtain ⟨kq, x22_2, rfl, HA, HJ2, HB⟩ := hcut
    cases kq with
    | zero => exact absurd HA.out (by simp [stolonref02_Put.j0])
    | succ kj2 =>
      have H := HA.out
      clear HA
      simp only [stolonref02_Put.j0] at H
      by_cases c6 : x22_2 = true
      · subst c6
        have H1 : (some (([] : List Int), 1)) = some (r1, r2) := by rw [if_pos rfl] at H; exact H
        clear H
        have H := H1
        clear H1
        simp only [Option.some.injEq, Prod.mk.injEq] at H
        obtain ⟨rfl, rfl⟩ := H
        go_wp2
        go_ret2
        exact ⟨_, by first | rfl | (simp [errW_none, errW_some] <;> rfl) | (simp [*, errW_none, errW_some] <;> rfl), by first | exact Kd.R_nil _ _ _ _ _ | exact Kd.N_nil _ _ _ _ _ | exact Kd.V_nil _ _ _ _ _ | exact Kd.Q_nil _ _ _ _ _ | exact Kd.S_nil _ _ _ _ _, by repeat (first | (with_reducible first | exact HB.out | apply below_alloc | apply pw_below_drewN | apply below_drew1) | exact HB.out)⟩
      · replace c6 := Bool.eq_false_iff.mpr c6
        subst c6
        have H1 : (stolonref02_Put.l0 kj2 l0 a1 ([] : List Int) 0) = some (r1, r2) := by rw [if_neg (show ¬ (false = true) by decide)] at H; exact H
        clear H
        have H := H1
        clear H1
        have H' := Aside0.mk H
        clear H
        go_wp2
        go_loopg [6, 7] kj2 (fun kq v6 v7 w' => ∃ (x6_2 : List Int) (x7_2 : Int), v7 = .int .i64 x7_2 ∧ Aside0 (stolonref02_Put.l0 kq l0 a1 x6_2 x7_2 = some (r1, r2)) ∧ Aside0 (kq ≤ kj2) ∧ Aside0 (Kd.R (Kd.int .u8) 5 w' w.heap.size (fun _ => True) v6 x6_2) ∧ Aside0 (Below w.heap.size w w'))
        case atStart => exact ⟨(([] : List Int)), (0), (by first | rfl | (simp; done) | (simp [*]; done)), H', ⟨Nat.le_refl _⟩, ⟨by first | exact Kd.R_nil _ _ _ _ _ | exact Kd.N_nil _ _ _ _ _ | exact Kd.V_nil _ _ _ _ _ | exact Kd.Q_nil _ _ _ _ _ | exact Kd.S_nil _ _ _ _ _⟩, ⟨by repeat (first | (with_reducible first | exact HB.out | apply below_alloc | apply pw_below_drewN | apply below_drew1) | exact HB.out)⟩⟩
        case round =>
          clear H'
          try clear c2
          try clear p2
          try clear c4
          try clear c4b0
          try clear c5
          try clear c5b0
          try clear c5b1
          try clear c6
          try clear p6
          try clear p2
          obtain ⟨x6_2, x7_2, rfl, HA, HK2, HO_6, HB⟩ := hrel
          cases gk with
          | zero => exact absurd HA.out (by simp [stolonref02_Put.l0])
          | succ k2 =>
            have H := HA.out
            clear HA
            simp only [stolonref02_Put.l0] at H
            by_cases c7 : x7_2 < (l0.length : Int)
            · rw [if_pos c7] at H
              have c7b0 : decide (x7_2 < (l0.length : Int)) = true := decide_eq_true c7
              clear c7
              by_cases c8 : x7_2 = a1
              · rw [if_pos c8] at H
                have c8b0 : (x7_2 == a1) = true := beq_iff_eq.mpr c8
                have c8b1 : (x7_2 != a1) = false := bne_eq_false_iff_eq.mpr c8
                clear c8
                by_cases c9 : x6_2.length < 140737488355328
                · rw [if_pos c9] at H
                  have LMc9 := Aside0.mk c9
                  clear c9
                  obtain ⟨y185, hy185⟩ : ∃ y_ : List Int, y_ = (x6_2 ++ [0]) := ⟨_, rfl⟩
                  replace H : (stolonref02_Put.l0 k2 l0 a1 y185 (wrap64 (x7_2 + 1))) = some (r1, r2) := by first | (rw [hy185]; with_reducible exact H) | (have H2_ := (Option.bind_some _ _).symm.trans H; rw [hy185]; with_reducible exact H2_) | (have H2_ := (Option.bind_some _ _).symm.trans H; with_reducible exact H2_) | with_reducible exact H | (rw [hy185]; exact H) | exact H
                  have Ny185 := Aside0.mk hy185
                  clear hy185
                  have H' := Aside0.mk H
                  clear H
                  go_wp2_with (first | ((with_reducible refine gate_builtin (b := .append) (xs := #[.tmp 38, .tmp 39]) rfl ?_); (try (refine gate_guard (by rfl) ?_; dsimp only)); at_builtin; refine Kd.R_append (Kd.int .u8) (w0 := w) w.heap.size rfl (.tmp 38) (.tmp 39) 30 5 (.int .u8 0) 1 rfl Try.underlying30 info5 rfl (by decide) (by omega) u6 x6_2 0 [.int .u8 0] (fun _ => True) (fun _ => False) rfl rfl ?aP (fun _ hk => hk.elim) ?aF ?aO ?aB ?aS ?aL ?_; (case aP => exact rfl); (case aB => exact (by repeat (first | (with_reducible first | exact HB.out | apply below_alloc | apply pw_below_drewN | apply below_drew1) | exact HB.out))); (case aF => exact (fun _ _ => trivial)); (case aO => exact (by (with_reducible repeat (first | apply Kd.R_alloc | apply Kd.R_drewN | apply Kd.R_drew)); exact HO_6.out)); (case aS => exact (below_size (by repeat (first | (with_reducible first | exact HB.out | apply below_alloc | apply pw_below_drewN | apply below_drew1) | exact HB.out)))); (case aL => have := LMc9.out; omega); intro v186 w10 ho hb hg hat; rw [← Ny185.out] at ho; have n0_ := Aside0.mk (hb); have n1_ := Aside0.mk (ho); clear HB; clear HO_6; have HB := n0_; have HO187 := n1_; clear n0_ n1_; clear ho hb hg hat))
                  go_roundg k2
                  case measure => have := HJ2.out; have := HK2.out; omega
                  case rel => exact ⟨(y185), (wrap64 (x7_2 + 1)), (by first | rfl | (simp; done) | (simp [*]; done)), H', ⟨by have := HJ2.out; have := HK2.out; omega⟩, ⟨by (with_reducible repeat (first | apply Kd.R_alloc | apply Kd.R_drewN | apply Kd.R_drew)); exact HO187.out⟩, ⟨by repeat (first | (with_reducible first | exact HB.out | apply below_alloc | apply pw_below_drewN | apply below_drew1) | exact HB.out)⟩⟩
                · rw [if_neg c9] at H
                  exact absurd H (by simp)
              · rw [if_neg c8] at H
                have c8b0 : (x7_2 == a1) = false := beq_eq_false_iff_ne.mpr c8
                have c8b1 : (x7_2 != a1) = true := bne_iff_ne.mpr c8
                by_cases c11 : x7_2 = (wrap64 (a1 + 1))
                · rw [if_pos c11] at H
                  have c11b0 : (x7_2 == (wrap64 (a1 + 1))) = true := beq_iff_eq.mpr c11
                  have c11b1 : (x7_2 != (wrap64 (a1 + 1))) = false := bne_eq_false_iff_eq.mpr c11
                  clear c11
                  by_cases c12 : x6_2.length < 140737488355328
                  · rw [if_pos c12] at H
                    have LMc12 := Aside0.mk c12
                    clear c12
                    obtain ⟨y188, hy188⟩ : ∃ y_ : List Int, y_ = (x6_2 ++ [0]) := ⟨_, rfl⟩
                    replace H : (stolonref02_Put.l0 k2 l0 a1 y188 (wrap64 (x7_2 + 1))) = some (r1, r2) := by first | (rw [hy188]; with_reducible exact H) | (have H2_ := (Option.bind_some _ _).symm.trans H; rw [hy188]; with_reducible exact H2_) | (have H2_ := (Option.bind_some _ _).symm.trans H; with_reducible exact H2_) | with_reducible exact H | (rw [hy188]; exact H) | exact H
                    have Ny188 := Aside0.mk hy188
                    clear hy188
                    have H' := Aside0.mk H
                    clear H
                    go_wp2_with (first | ((with_reducible refine gate_builtin (b := .append) (xs := #[.tmp 38, .tmp 39]) rfl ?_); (try (refine gate_guard (by rfl) ?_; dsimp only)); at_builtin; refine Kd.R_append (Kd.int .u8) (w0 := w) w.heap.size rfl (.tmp 38) (.tmp 39) 30 5 (.int .u8 0) 1 rfl Try.underlying30 info5 rfl (by decide) (by omega) u6 x6_2 0 [.int .u8 0] (fun _ => True) (fun _ => False) rfl rfl ?aP (fun _ hk => hk.elim) ?aF ?aO ?aB ?aS ?aL ?_; (case aP => exact rfl); (case aB => exact (by repeat (first | (with_reducible first | exact HB.out | apply below_alloc | apply pw_below_drewN | apply below_drew1) | exact HB.out))); (case aF => exact (fun _ _ => trivial)); (case aO => exact (by (with_reducible repeat (first | apply Kd.R_alloc | apply Kd.R_drewN | apply Kd.R_drew)); exact HO_6.out)); (case aS => exact (below_size (by repeat (first | (with_reducible first | exact HB.out | apply below_alloc | apply pw_below_drewN | apply below_drew1) | exact HB.out)))); (case aL => have := LMc12.out; omega); intro v189 w13 ho hb hg hat; rw [← Ny188.out] at ho; have n0_ := Aside0.mk (hb); have n1_ := Aside0.mk (ho); clear HB; clear HO_6; have HB := n0_; have HO190 := n1_; clear n0_ n1_; clear ho hb hg hat))
                    go_roundg k2
                    case measure => have := HJ2.out; have := HK2.out; omega
                    case rel => exact ⟨(y188), (wrap64 (x7_2 + 1)), (by first | rfl | (simp; done) | (simp [*]; done)), H', ⟨by have := HJ2.out; have := HK2.out; omega⟩, ⟨by (with_reducible repeat (first | apply Kd.R_alloc | apply Kd.R_drewN | apply Kd.R_drew)); exact HO190.out⟩, ⟨by repeat (first | (with_reducible first | exact HB.out | apply below_alloc | apply pw_below_drewN | apply below_drew1) | exact HB.out)⟩⟩
                  · rw [if_neg c12] at H
                    exact absurd H (by simp)
                · rw [if_neg c11] at H
                  have c11b0 : (x7_2 == (wrap64 (a1 + 1))) = false := beq_eq_false_iff_ne.mpr c11
                  have c11b1 : (x7_2 != (wrap64 (a1 + 1))) = true := bne_iff_ne.mpr c11
                  by_cases c14 : 0 ≤ x7_2
                  · rw [if_pos c14] at H
                    have c14b0 : decide (0 ≤ x7_2) = true := decide_eq_true c14
                    clear c14
                    by_cases c15 : x6_2.length < 140737488355328
                    · rw [if_pos c15] at H
                      have LMc15 := Aside0.mk c15
                      clear c15
                      obtain ⟨y192, hy192⟩ : ∃ y_ : List Int, y_ = (x6_2 ++ [rd l0 x7_2]) := ⟨_, rfl⟩
                      replace H : (stolonref02_Put.l0 k2 l0 a1 y192 (wrap64 (x7_2 + 1))) = some (r1, r2) := by first | (rw [hy192]; with_reducible exact H) | (have H2_ := (Option.bind_some _ _).symm.trans H; rw [hy192]; with_reducible exact H2_) | (have H2_ := (Option.bind_some _ _).symm.trans H; with_reducible exact H2_) | with_reducible exact H | (rw [hy192]; exact H) | exact H
                      have Ny192 := Aside0.mk hy192
                      clear hy192
                      have H' := Aside0.mk H
                      clear H
                      have p191 : 0 ≤ (x7_2 : Int) := of_decide_eq_true (by first | (with_reducible assumption) | assumption)
                      have q191 : x7_2 < (l0.length : Int) := of_decide_eq_true (by first | (with_reducible assumption) | assumption)
                      obtain ⟨ad191, e191, hx191_0⟩ := Kd.at_int HR0.out x7_2 p191 q191
                      cases e191
                      replace hx191_0 := (HB.out.cell (World.block_lt_of_cell? w _ hx191_0)).trans hx191_0
                      replace p191 := eq_true p191
                      replace q191 := eq_true q191
                      go_wp2_with (first | ((with_reducible refine gate_builtin (b := .append) (xs := #[.tmp 41, .tmp 46]) rfl ?_); (try (refine gate_guard (by rfl) ?_; dsimp only)); at_builtin; refine Kd.R_append (Kd.int .u8) (w0 := w) w.heap.size rfl (.tmp 41) (.tmp 46) 30 5 (.int .u8 0) 1 rfl Try.underlying30 info5 rfl (by decide) (by omega) u6 x6_2 (rd l0 x7_2) [.int .u8 (rd l0 x7_2)] (fun _ => True) (fun _ => False) rfl rfl ?aP (fun _ hk => hk.elim) ?aF ?aO ?aB ?aS ?aL ?_; (case aP => exact rfl); (case aB => exact (by repeat (first | (with_reducible first | exact HB.out | apply below_alloc | apply pw_below_drewN | apply below_drew1) | exact HB.out))); (case aF => exact (fun _ _ => trivial)); (case aO => exact (by (with_reducible repeat (first | apply Kd.R_alloc | apply Kd.R_drewN | apply Kd.R_drew)); exact HO_6.out)); (case aS => exact (below_size (by repeat (first | (with_reducible first | exact HB.out | apply below_alloc | apply pw_below_drewN | apply below_drew1) | exact HB.out)))); (case aL => have := LMc15.out; omega); intro v193 w16 ho hb hg hat; rw [← Ny192.out] at ho; have n0_ := Aside0.mk (hb); have n1_ := Aside0.mk (ho); clear HB; clear HO_6; have HB := n0_; have HO194 := n1_; clear n0_ n1_; clear ho hb hg hat))
                      go_roundg k2
                      case measure => have := HJ2.out; have := HK2.out; omega
                      case rel => exact ⟨(y192), (wrap64 (x7_2 + 1)), (by first | rfl | (simp; done) | (simp [*]; done)), H', ⟨by have := HJ2.out; have := HK2.out; omega⟩, ⟨by (with_reducible repeat (first | apply Kd.R_alloc | apply Kd.R_drewN | apply Kd.R_drew)); exact HO194.out⟩, ⟨by repeat (first | (with_reducible first | exact HB.out | apply below_alloc | apply pw_below_drewN | apply below_drew1) | exact HB.out)⟩⟩
                    · rw [if_neg c15] at H
                      exact absurd H (by simp)
                  · rw [if_neg c14] at H
                    exact absurd H (by simp)
            · rw [if_neg c7] at H
              have c7b0 : decide (x7_2 < (l0.length : Int)) = false := decide_eq_false c7
              clear c7
              replace H := Option.bind_eq_some_iff.mp H
              obtain ⟨t182, A170, H⟩ := H
              replace H : (if 0 ≤ a1 then (if a1 < (x6_2.length : Int) then (if 0 ≤ (wrap64 (a1 + 1)) then (if (wrap64 (a1 + 1)) < (x6_2.length : Int) then (some (((x6_2.set (a1 : Int).toNat ((IntKind.u16.wrap (Int.tdiv t182 256)) % 256)).set ((wrap64 (a1 + 1)) : Int).toNat ((Int.tmod t182 256) % 256)), 0)) else (none)) else (none)) else (none)) else (none)) = some (r1, r2) := H
              have A17 := Aside0.mk A170
              clear A170
              by_cases c18 : 0 ≤ a1
              · rw [if_pos c18] at H
                have c18b0 : decide (0 ≤ a1) = true := decide_eq_true c18
                clear c18
                by_cases c19 : a1 < (x6_2.length : Int)
                · rw [if_pos c19] at H
                  have c19b0 : decide (a1 < (x6_2.length : Int)) = true := decide_eq_true c19
                  clear c19
                  obtain ⟨y183, hy183⟩ : ∃ y_ : List Int, y_ = (x6_2.set (a1 : Int).toNat ((IntKind.u16.wrap (Int.tdiv t182 256)) % 256)) := ⟨_, rfl⟩
                  replace H : (if 0 ≤ (wrap64 (a1 + 1)) then (if (wrap64 (a1 + 1)) < (x6_2.length : Int) then (some ((y183.set ((wrap64 (a1 + 1)) : Int).toNat ((Int.tmod t182 256) % 256)), 0)) else (none)) else (none)) = some (r1, r2) := by first | (rw [hy183]; with_reducible exact H) | (have H2_ := (Option.bind_some _ _).symm.trans H; rw [hy183]; with_reducible exact H2_) | (have H2_ := (Option.bind_some _ _).symm.trans H; with_reducible exact H2_) | with_reducible exact H | (rw [hy183]; exact H) | exact H
                  have Ny183 := Aside0.mk hy183
                  clear hy183
                  obtain ⟨ji21, hji21⟩ : ∃ j_ : Int, (wrap64 (a1 + 1)) = j_ := ⟨_, rfl⟩
                  replace H : (if 0 ≤ (ji21) then (if (ji21) < (x6_2.length : Int) then (some ((y183.set ((ji21) : Int).toNat ((Int.tmod t182 256) % 256)), 0)) else (none)) else (none)) = some (r1, r2) := by first | (rw [hji21] at H; exact H) | (simp only [hji21] at H ⊢; exact H)
                  (try rw [hji21] at A17)
                  have hji21w : (IntKind.i64.wrap (a1 + 1)) = ji21 := (i64_w _).trans hji21
                  by_cases c22 : 0 ≤ (ji21)
                  · rw [if_pos c22] at H
                    have c22b0 : decide (0 ≤ (ji21)) = true := decide_eq_true c22
                    clear c22
                    by_cases c23 : (ji21) < (x6_2.length : Int)
                    · rw [if_pos c23] at H
                      have c23b0 : decide ((ji21) < (x6_2.length : Int)) = true := decide_eq_true c23
                      clear c23
                      obtain ⟨y184, hy184⟩ : ∃ y_ : List Int, y_ = (y183.set ((ji21) : Int).toNat ((Int.tmod t182 256) % 256)) := ⟨_, rfl⟩
                      replace H : (some (y184, 0)) = some (r1, r2) := by first | (rw [hy184]; with_reducible exact H) | (have H2_ := (Option.bind_some _ _).symm.trans H; rw [hy184]; with_reducible exact H2_) | (have H2_ := (Option.bind_some _ _).symm.trans H; with_reducible exact H2_) | with_reducible exact H | (rw [hy184]; exact H) | exact H
                      have Ny184 := Aside0.mk hy184
                      clear hy184
                      simp only [Option.some.injEq, Prod.mk.injEq] at H
                      obtain ⟨rfl, rfl⟩ := H
                      obtain ⟨Ao25, co25, eo25⟩ := Kd.R_slice HO_6.out
                      subst eo25
                      go_wp2_with (first | ((with_reducible refine gate_callee (f := 38) rfl ?_); refine goesL_ (some 49) rfl rfl Try.func38 (by kernel_rfl) rfl #[.slice Ao25 x6_2.length co25] rfl (by (try simp only [List.map_toArray, List.map_cons, List.map_nil]); first | done | rfl | (simp only [List.length_drop, List.length_take]; rfl)) ?_; (with_reducible refine (stolonref02_Of.calls k2 _ _ x6_2 t182 _ ?side1 ?side2 A17.out).mono ?_); (case side1 => repeat (first | exact (Kd.R_reads' HO_6.out).2.2 | (with_reducible refine Kd.C_alloc ?_ _) | (with_reducible refine Kd.C_drewN ?_ _) | (with_reducible refine Kd.C_drew ?_))); (case side2 => exact (Kd.R_reads' HO_6.out).2.1); rintro e w' ⟨rfl, ⟨nd, rfl⟩⟩; refine ⟨_, rfl, ?_⟩; (try (rw [drewN_self wr]; generalize hq_ : World.drewN wr _ = wr; have n0_ : Aside0 (Kd.R (Kd.int .u8) 5 wr w.heap.size (fun _ => True) (.slice Ao25 x6_2.length co25) x6_2) := ⟨by rw [← hq_]; exact (by (with_reducible repeat (first | apply Kd.R_alloc | apply Kd.R_drewN | apply Kd.R_drew)); exact HO_6.out)⟩; have n1_ : Aside0 (Below w.heap.size w wr) := ⟨by rw [← hq_]; exact (by repeat (first | (with_reducible first | exact HB.out | apply below_alloc | apply pw_below_drewN | apply below_drew1) | exact HB.out))⟩; clear HO_6 HB hq_; have HO_6 := n0_; have HB := n1_; clear n0_ n1_)); have p20 : 0 ≤ (a1 : Int) := of_decide_eq_true (by first | (with_reducible assumption) | assumption); have q20 : (a1 : Int) < ((x6_2.length : Int) : Int) := of_decide_eq_true (by first | (with_reducible assumption) | assumption); obtain ⟨go20, co20, eo20, gb20, gl20, cl20, HG20⟩ := Kd.R_form HO_6.out (by omega); (first | cases eo20 | (injection eo20 with ea_ en_ ec_; (first | subst ea_ | (injection ea_ with ea_; subst ea_)); subst ec_; clear en_)); have GB20 := Aside0.mk gb20; have GG20 := Aside0.mk HG20; clear gb20 gl20 HG20; obtain ⟨hx20_0, hf20_0⟩ := Kd.R_celln 0 HO_6.out (a1 : Int) p20 q20; replace p20 := eq_true p20; replace q20 := eq_true q20; obtain ⟨hy26_, hz26_⟩ := Kd.R_celln 0 HO_6.out (a1 : Int) (of_decide_eq_true (by first | (with_reducible assumption) | assumption)) (of_decide_eq_true (by first | (with_reducible assumption) | assumption)); have HP26 := Kd.R_putg HO_6.out (a1 : Int) ((IntKind.u16.wrap (Int.tdiv t182 256)) % 256)) | ((with_reducible refine gate_store (t := 5) (p := 55) rfl ?_); refine store_event (t := 5) (p := 55) (v := ?vo_w27) (w1 := (wr.setCell ⟨go20, (a1 : Int).toNat, none⟩ (.int .u8 ((IntKind.u16.wrap (Int.tdiv t182 256)) % 256)))) ?hg ?ho ?hn ?hr ?_; (case ho => rfl); (case hg => rfl); (case hn => rfl); (case hr => first | (go_simp; done) | (go_simp; rfl)); intro w27 hw; have hg : wr.grownBy w27 (some go20) := (by rw [hw]; exact HP26.2); have hp_ : Kd.R (Kd.int .u8) 5 w27 w.heap.size (fun _ => True) (.slice (some ⟨go20, 0, none⟩) x6_2.length co25) y183 := (by rw [hw, Ny183.out]; exact HP26.1); clear HP26; have n0_ := Aside0.mk (hp_); have n1_ := Aside0.mk ((by rw [hw]; exact below_set (HB.out) GB20.out : Below w.heap.size w w27)); clear HO_6; clear HB; have HO_6 := n0_; have HB := n1_; clear n0_ n1_; clear hg hw hp_; have p24 : 0 ≤ ((ji21) : Int) := of_decide_eq_true (by first | (with_reducible assumption) | assumption); have q24 : ((ji21) : Int) < ((x6_2.length : Int) : Int) := of_decide_eq_true (by first | (with_reducible assumption) | assumption); obtain ⟨hx24_0, hf24_0⟩ := Kd.R_celln 0 HO_6.out ((ji21) : Int) p24 q24; replace p24 := eq_true p24; replace q24 := eq_true q24; obtain ⟨hy28_, hz28_⟩ := Kd.R_celln 0 HO_6.out ((ji21) : Int) (of_decide_eq_true (by first | (with_reducible assumption) | assumption)) (of_decide_eq_true (by first | (with_reducible assumption) | assumption)); have HP28 := Kd.R_putg HO_6.out ((ji21) : Int) ((Int.tmod t182 256) % 256)) | ((with_reducible refine gate_store (t := 5) (p := 62) rfl ?_); refine store_event (t := 5) (p := 62) (v := ?vo_w29) (w1 := (w27.setCell ⟨go20, ((ji21) : Int).toNat, none⟩ (.int .u8 ((Int.tmod t182 256) % 256)))) ?hg ?ho ?hn ?hr ?_; (case ho => rfl); (case hg => rfl); (case hn => rfl); (case hr => first | (go_simp; done) | (go_simp; rfl)); intro w29 hw; have hg : w27.grownBy w29 (some go20) := (by rw [hw]; exact HP28.2); have hp_ : Kd.R (Kd.int .u8) 5 w29 w.heap.size (fun _ => True) (.slice (some ⟨go20, 0, none⟩) x6_2.length co25) y184 := (by rw [hw, Ny184.out]; exact HP28.1); clear HP28; have n0_ := Aside0.mk (hp_); have n1_ := Aside0.mk ((by rw [hw]; exact below_set (HB.out) GB20.out : Below w.heap.size w w29)); clear HO_6; clear HB; have HO_6 := n0_; have HB := n1_; clear n0_ n1_; clear hg hw hp_))
                      go_ret2
                      exact ⟨_, by first | rfl | (simp [errW_none, errW_some] <;> rfl) | (simp only [← hji21]; first | rfl | (simp [errW_none, errW_some] <;> rfl)) | (simp [*, errW_none, errW_some] <;> rfl), by (with_reducible repeat (first | apply Kd.R_alloc | apply Kd.R_drewN | apply Kd.R_drew)); exact HO_6.out, by repeat (first | (with_reducible first | exact HB.out | apply below_alloc | apply pw_below_drewN | apply below_drew1) | exact HB.out)⟩
                    · rw [if_neg c23] at H
                      exact absurd H (by simp)
                  · rw [if_neg c22] at H
                    exact absurd H (by simp)
                · rw [if_neg c19] at H
                  exact absurd H (by simp)
              · rw [if_neg c18] at H
                exact absurd H (by simp)

end Go.Proofs.Ytafmjhmpnlkeiaa.P
