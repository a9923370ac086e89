/- Seat 5's texts, merged by a program of this session: GRefEncode. Parts of the proof of IgmpWrites: whatever two messages, the law returns true. -/
import Derived.Deep.RegionHeld3
import Derived.Test.YtafmjhmpnlkeiaaMH
import Derived.Test.YtafmjhmpnlkeiaaMF
import Derived.Test.YtafmjhmpnlkeiaaMI

/- stolonref05.Encode: the walk. -/
namespace Go.Proofs.Ytafmjhmpnlkeiaa.P
open Go.RowKit Go.Proofs.YtafmjhmpnlkeiaaW.PrintWords Go.Proofs.YtafmjhmpnlkeiaaW.PrintLast Go.Proofs.YtafmjhmpnlkeiaaW.PrintMore
set_option linter.unusedVariables false
set_option linter.unusedSimpArgs false

/-- Bytes of the call's own, in a block of S's. -/
def Bv (w0 W : World) (v : Value) (S : Nat → Prop) (xs : List Int) : Prop := Kd.R (Kd.int .u8) 5 W w0.heap.size S v xs ∧ Below w0.heap.size w0 W
theorem Bv.below {w0 W W' : World} {v : Value} {S : Nat → Prop} {xs : List Int} (h : Bv w0 W v S xs) (hb : Below W.heap.size W W') : Bv w0 W' v S xs := ⟨Kd.R_below h.1 hb, h.2.trans (hb.mono h.2.size)⟩
theorem Bv.mono {w0 W : World} {v : Value} {S S' : Nat → Prop} {xs : List Int} (h : Bv w0 W v S xs) (hs : ∀ k, S k → S' k) : Bv w0 W v S' xs := ⟨Kd.R_mono h.1 hs, h.2⟩
theorem Bv.bound {w0 W : World} {v : Value} {S : Nat → Prop} {xs : List Int} (h : Bv w0 W v S xs) : Bv w0 W v (fun k => k < W.heap.size) xs := ⟨Kd.R_mono (Kd.R_bound h.1) (fun _ hk => hk.2.2.1), h.2⟩
/-- A row that has just been built. -/
theorem Bv.new (w0 : World) (l : List Int) (hl : l.length ≤ 140737488355328) : Bv w0 (w0.alloc (.cells (l.map (Value.int .u8)).toArray 5)) (.slice (some ⟨w0.heap.size, 0, none⟩) l.length l.length) (fun _ => True) l :=
  ⟨Blk8.R (g := w0.heap.size) (World.alloc_heap_new w0 _) (Nat.le_refl _) hl, below_alloc (Below.refl _ _) _⟩
def refBytes (a : Int) : List Int := (stolonref01_Bytes.f a).getD []
theorem refBytes_f (a : Int) : stolonref01_Bytes.f a = some (refBytes a) := rfl
def refRows (k : Nat) (b g l : List Int) : Option (List Int) := stolonref05_rows.f k b g l
/-- The records' bytes behind some. -/
def refRecs (k : Nat) : List Int → List S44 → Option (List Int)
  | b, [] => some b
  | b, a :: l => if b.length + 2 ≤ 140737488355328 then (stolonref05_rows.f k (b ++ [a.f0, 0]) (refBytes a.f1) a.f2).bind fun b2 => refRecs k b2 l else none
def refB (k : Nat) (a0_0 a0_2 a0_3 : Int) (recs : List S44) : Option (List Int) :=
  if a0_0 = 34 then refRecs k ([a0_0, a0_2, 0, 0] ++ [0, 0, 0, (recs.length : Int) % 256]) recs else some ([a0_0, a0_2, 0, 0] ++ refBytes a0_3)
def refFlags (q : Bool) (rb : Int) : Int := if q = true then (rb + 8) % 256 else rb
def refC (k : Nat) (v : Int) (q : Bool) (rb e : Int) (srcs b : List Int) : Option (List Int) :=
  if v = 3 then (if b.length + 2 ≤ 140737488355328 then stolonref05_rows.f k (b ++ [refFlags q rb, e]) [] srcs else none) else some b
def stolonref05_Encode.f (k : Nat) (a0_0 : Int) (a0_1 : Int) (a0_2 : Int) (a0_3 : Int) (a0_4 : Bool) (a0_5 : Int) (a0_6 : Int) (l0_7 : List Int) (l0_8 : List (S44)) : Option (List Int × Int) :=
  (stolonref05_Right.f k a0_0 a0_1 a0_2 a0_3 a0_4 a0_5 a0_6 l0_7 l0_8).bind fun b => if b = true then (refB k a0_0 a0_2 a0_3 l0_8).bind fun x => (refC k a0_1 a0_4 a0_5 a0_6 l0_7 x).bind fun y => stolonref02_Put.f k y 2 else some ([], 1)
theorem refRecs_mono (k : Nat) (l : List S44) : ∀ b, LeO (refRecs k b l) (refRecs (k + 1) b l) := by
  induction l with
  | nil => exact fun b => LeO.refl _
  | cons a l ih => exact fun b => LeO.ite (LeO.bind (stolonref05_rows.mono _ _ _ _) (fun _ => ih _)) (LeO.refl _)
theorem stolonref05_Encode.mono : ∀ a0 a1 a2 a3 a4 a5 a6 a7 a8 k, LeO (stolonref05_Encode.f k a0 a1 a2 a3 a4 a5 a6 a7 a8) (stolonref05_Encode.f (k + 1) a0 a1 a2 a3 a4 a5 a6 a7 a8) := by
  intro a0 a1 a2 a3 a4 a5 a6 a7 a8 k
  unfold stolonref05_Encode.f
  refine LeO.bind (stolonref05_Right.mono _ _ _ _ _ _ _ _ _ _) (fun _ => LeO.ite (LeO.bind ?_ (fun _ => LeO.bind ?_ (fun _ => stolonref02_Put.mono _ _ _))) (LeO.refl _))
  · unfold refB
    exact LeO.ite (refRecs_mono _ _ _) (LeO.refl _)
  · unfold refC
    exact LeO.ite (LeO.ite (stolonref05_rows.mono _ _ _ _) (LeO.refl _)) (LeO.refl _)
set_option maxHeartbeats 4000000 in
set_option maxRecDepth 100000 in
theorem stolonref05_Encode.calls (k : Nat) (a0_0 : Int) (a0_1 : Int) (a0_2 : Int) (a0_3 : Int) (a0_4 : Bool) (a0_5 : Int) (a0_6 : Int) (A0_7 : Option Addr) (c0_7 : Nat) (l0_7 : List Int) (A0_8 : Option Addr) (c0_8 : Nat) (l0_8 : List (S44)) (r1 : List Int) (r2 : Int) (w : World) (hr0_7 : Kd.C (Kd.int .u32) w A0_7 l0_7.length l0_7) (hc0_7 : l0_7.length ≤ c0_7) (hr0_8 : Kd.C k44 w A0_8 l0_8.length l0_8) (hc0_8 : l0_8.length ≤ c0_8) (h : stolonref05_Encode.f k a0_0 a0_1 a0_2 a0_3 a0_4 a0_5 a0_6 l0_7 l0_8 = some (r1, r2)) :
    Calls Try.prog 8 #[.agg #[.int .u8 a0_0, .int .i64 a0_1, .int .u8 a0_2, .int .u32 a0_3, .bool a0_4, .int .u8 a0_5, .int .u8 a0_6, .slice A0_7 l0_7.length c0_7, .slice A0_8 l0_8.length c0_8]] w fun e w' => ∃ v0_ : Value, e = .returned (.tuple #[v0_, .int .i64 r2]) ∧ Kd.R (Kd.int .u8) 5 w' w.heap.size (fun _ => True) v0_ r1 ∧ Below w.heap.size w w' := by
  have hu27 := Try.underlying27
  have hu44 := Try.underlying44
  have HR7 := Aside0.mk hr0_7
  have HR8 := Aside0.mk hr0_8
  have hn8 : l0_8.length ≤ 9223372036854775807 := hr0_8.2.1
  clear hr0_7 hr0_8
  unfold stolonref05_Encode.f at h
  obtain ⟨b, hb, h⟩ := Option.bind_eq_some_iff.mp h
  have HRT := Aside0.mk hb
  clear hb
  go_enter Try.func8, Try.ntmps8
  go_wp2_with fail
  refine (stolonref05_Right.calls k a0_0 a0_1 a0_2 a0_3 a0_4 a0_5 a0_6 A0_7 c0_7 l0_7 A0_8 c0_8 l0_8 b _ (Kd.C_below HR7.out (below_alloc (Below.refl _ _) _)) hc0_7 (Kd.C_below HR8.out (below_alloc (Below.refl _ _) _)) hc0_8 HRT.out).mono ?_
  rintro e w1 ⟨rfl, hb1⟩
  have hM : MBox w1 w.heap.size a0_0 a0_1 a0_2 a0_3 a0_4 a0_5 a0_6 (.slice A0_7 l0_7.length c0_7) (.slice A0_8 l0_8.length c0_8) := (hb1.block _ (by simp)).trans (World.alloc_heap_new w _)
  have HM := Aside0.mk hM
  have HB1 := Aside0.mk ((below_alloc (Below.refl w.heap.size w) _).trans (hb1.mono (by simp)))
  have hlt1 : w.heap.size < w1.heap.size := by have := hb1.size; simp at this; omega
  clear hM hb1
  by_cases hbt : b = true
  · subst hbt
    rw [if_pos rfl] at h
    obtain ⟨x4, hx4, h⟩ := Option.bind_eq_some_iff.mp h
    obtain ⟨ys, hys, h⟩ := Option.bind_eq_some_iff.mp h
    have H := Aside0.mk h
    have HX4 := Aside0.mk hx4
    have HYS := Aside0.mk hys
    clear h hx4 hys
    obtain ⟨m0, m1, m2, m3, m4, m5, m6, m7, m8⟩ := HM.out.cells (Below.refl _ w1)
    have HW2 := Aside0.mk (Bv.new w1 [a0_0, a0_2, 0, 0] (by simp))
    by_cases h3 : a0_1 = 3
    · subst h3
      cases a0_4 with
      | false =>
        by_cases h34 : a0_0 = 34
        · subst h34
          have hx4 := HX4.out
          unfold refB at hx4
          rw [if_pos rfl] at hx4
          have HX4a := Aside0.mk hx4
          clear hx4 HX4
          obtain ⟨n0, n1, n2, n3, n4, n5, n6, n7, n8⟩ := HM.out.cells HW2.out.2
          go_wp2_with ((with_reducible refine gate_builtin (b := .append) (xs := #[.tmp 20, .tmp 25]) rfl ?_); refine Kd.R_append_rows (Kd.int .u8) w1.heap.size rfl (.tmp 20) (.tmp 25) 30 5 (.int .u8 0) 1 rfl Try.underlying30 info5 rfl (by decide) (by decide) (.slice (some ⟨w1.heap.size, 0, none⟩) 4 4) [34, a0_2, 0, 0] [0, 0, 0, (l0_8.length : Int) % 256] (some ⟨w1.heap.size + 1, 0, none⟩) ([0, 0, 0, (l0_8.length : Int) % 256]).length 4 (fun _ => True) (fun _ => False) rfl rfl (Kd.R_mono (HW2.out.below (below_alloc (Below.refl _ _) _)).1 (fun _ _ => trivial)) (C_new8s _ [0, 0, 0, (l0_8.length : Int) % 256] (by simp) _ (by simp)) (fun _ _ h => h) (fun _ h => h.elim) (fun _ _ => trivial) (HW2.out.below (below_alloc (Below.refl _ _) _)).2 (HW2.out.below (below_alloc (Below.refl _ _) _)).2.size (by simp) ?_; intro vt wt rt bt gt _; have ht : Bv w1 wt vt (fun _ => True) ([34, a0_2, 0, 0] ++ [0, 0, 0, (l0_8.length : Int) % 256]) := ⟨rt, bt⟩; obtain ⟨xt, hxt⟩ : ∃ x, ([34, a0_2, 0, 0] ++ [0, 0, 0, (l0_8.length : Int) % 256]) = x := ⟨_, rfl⟩; rw [hxt] at rt ht; obtain ⟨At, ct, rfl⟩ := Kd.R_slice rt; have HWt := Aside0.mk ht; have HXt := Aside0.mk hxt; clear n0 n1 n2 n3 n4 n5 n6 n7 n8 m0 m1 m2 m3 m4 m5 m6 m7 m8; obtain ⟨m0, m1, m2, m3, m4, m5, m6, m7, m8⟩ := HM.out.cells ht.2; clear ht rt bt gt hxt)
          have HX4b : Aside0 (refRecs k xt l0_8 = some x4) := ⟨by rw [← HXt.out]; exact HX4a.out⟩
          clear HX4a HXt
          go_loopw [5, 6] (fun vb vi wr => ∃ (x : Nat) (xs : List Int), vi = .int .i64 x ∧ x ≤ l0_8.length ∧ Aside0 (Bv w1 wr vb (fun _ => True) xs) ∧ Aside0 (refRecs k xs (l0_8.drop x) = some x4)) (fun _ vi _ => l0_8.length - (intOf vi).toNat)
          case atStart => exact ⟨0, xt, rfl, by omega, HWt, ⟨by simpa using HX4b.out⟩⟩
          case round =>
            clear HWt HX4b m0 m1 m2 m3 m4 m5 m6 m7 m8
            obtain ⟨x, xs, rfl, hx, HX, HR⟩ := hrel
            obtain ⟨Ab, cb, rfl⟩ := Kd.R_slice HX.out.1
            obtain ⟨m0, m1, m2, m3, m4, m5, m6, m7, m8⟩ := HM.out.cells HX.out.2
            by_cases hlt : x < l0_8.length
            · obtain ⟨ad0, B0, e0, rfl, q0, q1, q2, q3, q4⟩ := at_T44 (Kd.C_below HR8.out HB1.out) (x : Int) (by omega) (by omega)
              simp only [Int.toNat_natCast] at q0 q1 q2
              have hr := HR.out
              rw [List.drop_eq_getElem_cons hlt, ← rdT44_eq l0_8 x hlt] at hr
              simp only [refRecs] at hr
              generalize rd_T44 l0_8 (x : Int) = a at q0 q1 q2 q3 q4 hr
              by_cases hlx : xs.length + 2 ≤ 140737488355328
              · rw [if_pos hlx] at hr
                obtain ⟨b2, hb2, hr2⟩ := Option.bind_eq_some_iff.mp hr
                have HB2 := Aside0.mk hb2
                have HRR := Aside0.mk hr2
                have Q4 := Aside0.mk q4
                have Q1 := Aside0.mk q1
                have Q2 := Aside0.mk q2
                have p0 := pw_cell_below (below_alloc (Below.refl _ _) (.cells #[.int .u8 a.f0, .int .u8 0] 5)) (pw_cell_below HX.out.2 q0)
                have p0' := pw_cell_below HX.out.2 q0
                clear hr hb2 hr2 q0 q1 q2 q4 HR
                go_wp2_with ((with_reducible refine gate_builtin (b := .append) (xs := #[.tmp 34, .tmp 41]) rfl ?_); refine Kd.R_append_rows (Kd.int .u8) w1.heap.size rfl (.tmp 34) (.tmp 41) 30 5 (.int .u8 0) 1 rfl Try.underlying30 info5 rfl (by decide) (by decide) (.slice Ab xs.length cb) xs [a.f0, 0] (some ⟨wr.heap.size, 0, none⟩) ([a.f0, 0]).length 2 (fun _ => True) (fun _ => False) rfl rfl (Kd.R_mono (HX.out.below (below_alloc (Below.refl _ _) _)).1 (fun _ _ => trivial)) (C_new8 wr [a.f0, 0] (by simp)) (fun _ _ h => h) (fun _ h => h.elim) (fun _ _ => trivial) (HX.out.below (below_alloc (Below.refl _ _) _)).2 (HX.out.below (below_alloc (Below.refl _ _) _)).2.size (by simp; omega) ?_; intro v7 w7 r7 b7 g7 _; have h7 : Bv w1 w7 v7 (fun _ => True) (xs ++ [a.f0, 0]) := ⟨r7, b7⟩; obtain ⟨x7, hx7⟩ : ∃ x, (xs ++ [a.f0, 0]) = x := ⟨_, rfl⟩; rw [hx7] at r7 h7; obtain ⟨A7, c7, rfl⟩ := Kd.R_slice r7; have HW7 := Aside0.mk h7; have HX7 := Aside0.mk hx7; clear m0 m1 m2 m3 m4 m5 m6 m7 m8; obtain ⟨m0, m1, m2, m3, m4, m5, m6, m7, m8⟩ := HM.out.cells h7.2; clear h7 r7 b7 g7 hx7)
                have hb2 : stolonref05_rows.f k x7 (refBytes a.f1) a.f2 = some b2 := by rw [← HX7.out]; exact HB2.out
                have HB2b := Aside0.mk hb2
                have p1 := pw_cell_below HW7.out.2 Q1.out
                have p2 := pw_cell_below HW7.out.2 Q2.out
                clear hb2 HB2 HX p0 p0'
                have E21 : Aside0 (Calls Try.prog 21 #[.int .u32 a.f1] w7.drew fun e w' => ∃ v8, e = .returned v8 ∧ Aside0 (Kd.R (Kd.int .u8) 5 w' w7.heap.size (fun _ => True) v8 (refBytes a.f1) ∧ Below w7.heap.size w7 w') ∧ w'.cell? ⟨w.heap.size, 8, none⟩ = some (.slice (some ad0) l0_8.length c0_8) ∧ w'.cell? ⟨(ad0.add (x * 3)).block, (ad0.add (x * 3)).off + 1, none⟩ = some (.int .u32 a.f1) ∧ w'.cell? ⟨(ad0.add (x * 3)).block, (ad0.add (x * 3)).off + 2, none⟩ = some (.slice B0 a.f2.length e0)) :=
                  ⟨(stolonref01_Bytes.calls a.f1 (refBytes a.f1) _ (refBytes_f a.f1)).mono fun e w' ⟨v8, h1, h2, h3⟩ => ⟨v8, h1, ⟨h2, (below_drew (Below.refl w7.heap.size w7)).trans h3⟩, pw_cell_below h3 m8, pw_cell_below h3 p1, pw_cell_below h3 p2⟩⟩
                have E20 : Aside0 (∀ v8 w8, Aside0 (Kd.R (Kd.int .u8) 5 w8 w7.heap.size (fun _ => True) v8 (refBytes a.f1) ∧ Below w7.heap.size w7 w8) → Calls Try.prog 20 #[.slice A7 x7.length c7, v8, .slice B0 a.f2.length e0] w8 fun e w' => ∃ A9 c9, e = .returned (.slice A9 b2.length c9) ∧ Aside0 (Bv w1 w' (.slice A9 b2.length c9) (fun _ => True) b2) ∧ w'.cell? ⟨w.heap.size, 8, none⟩ = some (.slice (some ad0) l0_8.length c0_8) ∧ w'.cell? ⟨(ad0.add (x * 3)).block, (ad0.add (x * 3)).off + 1, none⟩ = some (.int .u32 a.f1) ∧ w'.cell? ⟨(ad0.add (x * 3)).block, (ad0.add (x * 3)).off + 2, none⟩ = some (.slice B0 a.f2.length e0)) := by
                  refine ⟨fun v8 w8 q8 => ?_⟩
                  obtain ⟨hR8, hb8⟩ := q8.out
                  obtain ⟨A8, c8, rfl⟩ := Kd.R_slice hR8
                  refine (stolonref05_rows.calls k (fun k_ => w1.heap.size ≤ k_ ∧ k_ < w7.heap.size) (.slice A7 x7.length c7) x7 A8 c8 (refBytes a.f1) B0 e0 a.f2 b2 w1 _ (HW7.out.2.trans (hb8.mono HW7.out.2.size)) (Kd.R_below (Kd.R_mono (Kd.R_bound HW7.out.1) (fun _ hk => ⟨hk.2.1, hk.2.2.1⟩)) hb8) (Kd.C_kept_own (Kd.R_bound hR8) (fun k_ hk hs => by have h1 : w7.heap.size ≤ k_ := hk.2.1; omega)) (Kd.R_reads' hR8).2.1 (Kd.C_kept_came (Kd.heap_int _) Q4.out (HW7.out.2.trans (hb8.mono HW7.out.2.size)) (fun _ hs => hs.1)) q3 HB2b.out).mono ?_
                  rintro e w9 ⟨v9, rfl, hR9, hb9, _⟩
                  obtain ⟨A9, c9, rfl⟩ := Kd.R_slice hR9
                  obtain ⟨t0, t1, t2, t3, t4, t5, t6, t7, t8⟩ := HM.out.cells hb9
                  exact ⟨A9, c9, rfl, ⟨⟨Kd.R_mono hR9 (fun _ _ => trivial), hb9⟩⟩, t8, pw_cell_below hb9 Q1.out, pw_cell_below hb9 Q2.out⟩
                go_region_held3 (fun w' => w'.cell? ⟨w.heap.size, 8, none⟩ = some (.slice (some ad0) l0_8.length c0_8) ∧ w'.cell? ⟨(ad0.add (x * 3)).block, (ad0.add (x * 3)).off + 1, none⟩ = some (.int .u32 a.f1) ∧ w'.cell? ⟨(ad0.add (x * 3)).block, (ad0.add (x * 3)).off + 2, none⟩ = some (.slice B0 a.f2.length e0)) (first | exact ⟨m8, p1, p2⟩ | exact ⟨s8, s1, s2⟩ | exact ⟨t8, t1, t2⟩) (first | (go_at_call 21; refine E21.out.mono ?_; rintro e w8 ⟨v8, rfl, q8, s8, s1, s2⟩) | (go_at_call 20; refine (E20.out _ _ q8).mono ?_; rintro e w9 ⟨A9, c9, rfl, HW9, t8, t1, t2⟩))
                all_goals
                  go_wp2
                  go_roundw
                  case measure => simp [intOf]; omega
                  case rel => exact ⟨x + 1, b2, by go_num, by omega, HW9, HRR⟩
              · rw [if_neg hlx] at hr
                cases hr
            · have hr := HR.out
              rw [List.drop_of_length_le (by omega)] at hr
              simp only [refRecs] at hr
              obtain rfl := Option.some.inj hr
              obtain ⟨w4, rfl⟩ : ∃ w4, w4 = wr := ⟨_, rfl⟩
              obtain ⟨A4, rfl⟩ : ∃ A4, A4 = Ab := ⟨_, rfl⟩
              obtain ⟨c4, rfl⟩ : ∃ c4, c4 = cb := ⟨_, rfl⟩
              have HW4 := HX
              clear HX HR hr
              have hys := HYS.out
              unfold refC at hys
              rw [if_pos rfl] at hys
              by_cases hl4 : xs.length + 2 ≤ 140737488355328
              · rw [if_pos hl4] at hys
                have HYS2 := Aside0.mk hys
                clear hys HYS
                go_wp2_with ((with_reducible refine gate_builtin (b := .append) (xs := #[.tmp 72, .tmp 76]) rfl ?_); refine Kd.R_append_rows (Kd.int .u8) w1.heap.size rfl (.tmp 72) (.tmp 76) 30 5 (.int .u8 0) 1 rfl Try.underlying30 info5 rfl (by decide) (by decide) (.slice A4 xs.length c4) xs [refFlags false a0_5, a0_6] (some ⟨w4.heap.size, 0, none⟩) ([refFlags false a0_5, a0_6]).length 2 (fun _ => True) (fun _ => False) rfl rfl (Kd.R_mono (HW4.out.below (below_alloc (Below.refl _ _) _)).1 (fun _ _ => trivial)) (C_new8 w4 [refFlags false a0_5, a0_6] (by simp)) (fun _ _ h => h) (fun _ h => h.elim) (fun _ _ => trivial) (HW4.out.below (below_alloc (Below.refl _ _) _)).2 (HW4.out.below (below_alloc (Below.refl _ _) _)).2.size (by have := hl4; simp; omega) ?_; intro v5 w5 r5 b5 g5 _; have h5 : Bv w1 w5 v5 (fun _ => True) (xs ++ [refFlags false a0_5, a0_6]) := ⟨r5, b5⟩; obtain ⟨x5, hx5⟩ : ∃ x, (xs ++ [refFlags false a0_5, a0_6]) = x := ⟨_, rfl⟩; rw [hx5] at r5 h5; obtain ⟨A5, c5, rfl⟩ := Kd.R_slice r5; have HW5 := Aside0.mk h5; have HX5 := Aside0.mk hx5; clear m0 m1 m2 m3 m4 m5 m6 m7 m8; obtain ⟨m0, m1, m2, m3, m4, m5, m6, m7, m8⟩ := HM.out.cells h5.2; clear h5 r5 b5 g5 hx5)
                have HBN := Aside0.mk (HW5.out.bound)
                have hys5 : stolonref05_rows.f k x5 [] l0_7 = some ys := by rw [← HX5.out]; exact HYS2.out
                have HYS5 := Aside0.mk hys5
                clear hys5
                refine (stolonref05_rows.calls k _ _ x5 none 0 [] A0_7 c0_7 l0_7 ys w1 _ HBN.out.2 (Kd.R_mono (Kd.R_bound HBN.out.1) (ok' := fun k_ => w1.heap.size ≤ k_) (fun _ hk => hk.2.1)) Kd.C_kept_nil (by simp) (Kd.C_kept_came (Kd.heap_int _) (Kd.C_below HR7.out HB1.out) HBN.out.2 (fun _ hk => hk)) hc0_7 HYS5.out).mono ?_
                rintro e w6 ⟨v6, rfl, hR6, hb6, _⟩
                have HW6 : Aside0 (Bv w1 w6 v6 (fun _ => True) ys) := ⟨⟨Kd.R_mono hR6 (fun _ _ => trivial), hb6⟩⟩
                clear hR6 hb6 HBN
                obtain ⟨A9, c9, rfl, hle9, hC9⟩ := Kd.R_reads HW6.out.1
                have HB6 := Aside0.mk (HB1.out.trans (HW6.out.2.mono HB1.out.size))
                have HC9 := Aside0.mk hC9
                clear hC9 HW6
                go_wp2_with fail
                refine (stolonref02_Put.calls k A9 c9 ys 2 r1 r2 _ HC9.out hle9 H.out).mono ?_
                rintro e w9 ⟨v9, rfl, hR9, hb9⟩
                obtain ⟨A10, c10, rfl⟩ := Kd.R_slice hR9
                have HR9 := Aside0.mk hR9
                have HB9 := Aside0.mk hb9
                clear hR9 hb9
                go_wp2
                go_ret2
                exact ⟨_, rfl, Kd.R_lower HR9.out HB6.out.size, HB6.out.trans (HB9.out.mono HB6.out.size)⟩
              · rw [if_neg hl4] at hys
                cases hys
        · have hx4 := HX4.out
          unfold refB at hx4
          rw [if_neg h34] at hx4
          obtain rfl := Option.some.inj hx4
          have h34b : (a0_0 == 34) = false := beq_eq_false_iff_ne.mpr h34
          clear h34 hx4 HX4
          obtain ⟨n0, n1, n2, n3, n4, n5, n6, n7, n8⟩ := HM.out.cells HW2.out.2
          go_wp2_with fail
          refine (stolonref01_Bytes.calls a0_3 (refBytes a0_3) _ (refBytes_f a0_3)).mono ?_
          rintro e w3 ⟨v3, rfl, hR3, hb3⟩
          obtain ⟨A3, c3, rfl, _, hC3⟩ := Kd.R_reads hR3
          have HW3 := Aside0.mk (HW2.out.below hb3)
          have HC3 := Aside0.mk hC3
          have hn3 : (refBytes a0_3).length ≤ 100 := by simp [refBytes, stolonref01_Bytes.f]
          clear hR3 hb3 hC3 m0 m1 m2 m3 m4 m5 m6 m7 m8 n0 n1 n2 n3 n4 n5 n6 n7 n8
          obtain ⟨n0, n1, n2, n3, n4, n5, n6, n7, n8⟩ := HM.out.cells HW3.out.2
          have hys := HYS.out
          unfold refC at hys
          rw [if_pos rfl] at hys
          by_cases hl4 : ([a0_0, a0_2, 0, 0] ++ refBytes a0_3).length + 2 ≤ 140737488355328
          · rw [if_pos hl4] at hys
            have HL4 := Aside0.mk hl4
            have HYS1 := Aside0.mk hys
            clear hys HYS hl4
            go_wp2_with (first | ((with_reducible refine gate_builtin (b := .append) (xs := #[.tmp 58, .tmp 61]) rfl ?_); refine Kd.R_append_rows (Kd.int .u8) w1.heap.size rfl (.tmp 58) (.tmp 61) 30 5 (.int .u8 0) 1 rfl Try.underlying30 info5 rfl (by decide) (by decide) (.slice (some ⟨w1.heap.size, 0, none⟩) 4 4) [a0_0, a0_2, 0, 0] (refBytes a0_3) A3 ((refBytes a0_3)).length c3 (fun _ => True) (fun _ => False) rfl rfl (Kd.R_mono HW3.out.1 (fun _ _ => trivial)) HC3.out (fun _ _ h => h) (fun _ h => h.elim) (fun _ _ => trivial) HW3.out.2 HW3.out.2.size (by simp; omega) ?_; intro v4 w4 r4 b4 g4 _; have h4 : Bv w1 w4 v4 (fun _ => True) ([a0_0, a0_2, 0, 0] ++ (refBytes a0_3)) := ⟨r4, b4⟩; obtain ⟨x4, hx4⟩ : ∃ x, ([a0_0, a0_2, 0, 0] ++ (refBytes a0_3)) = x := ⟨_, rfl⟩; rw [hx4] at r4 h4; obtain ⟨A4, c4, rfl⟩ := Kd.R_slice r4; have HW4 := Aside0.mk h4; have HX4 := Aside0.mk hx4; clear n0 n1 n2 n3 n4 n5 n6 n7 n8; obtain ⟨m0, m1, m2, m3, m4, m5, m6, m7, m8⟩ := HM.out.cells h4.2; clear h4 r4 b4 g4 hx4) | ((with_reducible refine gate_builtin (b := .append) (xs := #[.tmp 72, .tmp 76]) rfl ?_); refine Kd.R_append_rows (Kd.int .u8) w1.heap.size rfl (.tmp 72) (.tmp 76) 30 5 (.int .u8 0) 1 rfl Try.underlying30 info5 rfl (by decide) (by decide) (.slice A4 x4.length c4) x4 [refFlags false a0_5, a0_6] (some ⟨w4.heap.size, 0, none⟩) ([refFlags false a0_5, a0_6]).length 2 (fun _ => True) (fun _ => False) rfl rfl (Kd.R_mono (HW4.out.below (below_alloc (Below.refl _ _) _)).1 (fun _ _ => trivial)) (C_new8 w4 [refFlags false a0_5, a0_6] (by simp)) (fun _ _ h => h) (fun _ h => h.elim) (fun _ _ => trivial) (HW4.out.below (below_alloc (Below.refl _ _) _)).2 (HW4.out.below (below_alloc (Below.refl _ _) _)).2.size (by have h1 := HL4.out; rw [HX4.out] at h1; simp; omega) ?_; intro v5 w5 r5 b5 g5 _; have h5 : Bv w1 w5 v5 (fun _ => True) (x4 ++ [refFlags false a0_5, a0_6]) := ⟨r5, b5⟩; obtain ⟨x5, hx5⟩ : ∃ x, (x4 ++ [refFlags false a0_5, a0_6]) = x := ⟨_, rfl⟩; rw [hx5] at r5 h5; obtain ⟨A5, c5, rfl⟩ := Kd.R_slice r5; have HW5 := Aside0.mk h5; have HX5 := Aside0.mk hx5; clear m0 m1 m2 m3 m4 m5 m6 m7 m8; obtain ⟨m0, m1, m2, m3, m4, m5, m6, m7, m8⟩ := HM.out.cells h5.2; clear h5 r5 b5 g5 hx5))
            have HYS2 : Aside0 (stolonref05_rows.f k (x4 ++ [refFlags false a0_5, a0_6]) [] l0_7 = some ys) := ⟨by rw [← HX4.out]; exact HYS1.out⟩
            have HBN := Aside0.mk (HW5.out.bound)
            have hys5 : stolonref05_rows.f k x5 [] l0_7 = some ys := by rw [← HX5.out]; exact HYS2.out
            have HYS5 := Aside0.mk hys5
            clear hys5
            refine (stolonref05_rows.calls k _ _ x5 none 0 [] A0_7 c0_7 l0_7 ys w1 _ HBN.out.2 (Kd.R_mono (Kd.R_bound HBN.out.1) (ok' := fun k_ => w1.heap.size ≤ k_) (fun _ hk => hk.2.1)) Kd.C_kept_nil (by simp) (Kd.C_kept_came (Kd.heap_int _) (Kd.C_below HR7.out HB1.out) HBN.out.2 (fun _ hk => hk)) hc0_7 HYS5.out).mono ?_
            rintro e w6 ⟨v6, rfl, hR6, hb6, _⟩
            have HW6 : Aside0 (Bv w1 w6 v6 (fun _ => True) ys) := ⟨⟨Kd.R_mono hR6 (fun _ _ => trivial), hb6⟩⟩
            clear hR6 hb6 HBN
            obtain ⟨A9, c9, rfl, hle9, hC9⟩ := Kd.R_reads HW6.out.1
            have HB6 := Aside0.mk (HB1.out.trans (HW6.out.2.mono HB1.out.size))
            have HC9 := Aside0.mk hC9
            clear hC9 HW6
            go_wp2_with fail
            refine (stolonref02_Put.calls k A9 c9 ys 2 r1 r2 _ HC9.out hle9 H.out).mono ?_
            rintro e w9 ⟨v9, rfl, hR9, hb9⟩
            obtain ⟨A10, c10, rfl⟩ := Kd.R_slice hR9
            have HR9 := Aside0.mk hR9
            have HB9 := Aside0.mk hb9
            clear hR9 hb9
            go_wp2
            go_ret2
            exact ⟨_, rfl, Kd.R_lower HR9.out HB6.out.size, HB6.out.trans (HB9.out.mono HB6.out.size)⟩
          · rw [if_neg hl4] at hys
            cases hys
      | true =>
        by_cases h34 : a0_0 = 34
        · subst h34
          have hx4 := HX4.out
          unfold refB at hx4
          rw [if_pos rfl] at hx4
          have HX4a := Aside0.mk hx4
          clear hx4 HX4
          obtain ⟨n0, n1, n2, n3, n4, n5, n6, n7, n8⟩ := HM.out.cells HW2.out.2
          go_wp2_with ((with_reducible refine gate_builtin (b := .append) (xs := #[.tmp 20, .tmp 25]) rfl ?_); refine Kd.R_append_rows (Kd.int .u8) w1.heap.size rfl (.tmp 20) (.tmp 25) 30 5 (.int .u8 0) 1 rfl Try.underlying30 info5 rfl (by decide) (by decide) (.slice (some ⟨w1.heap.size, 0, none⟩) 4 4) [34, a0_2, 0, 0] [0, 0, 0, (l0_8.length : Int) % 256] (some ⟨w1.heap.size + 1, 0, none⟩) ([0, 0, 0, (l0_8.length : Int) % 256]).length 4 (fun _ => True) (fun _ => False) rfl rfl (Kd.R_mono (HW2.out.below (below_alloc (Below.refl _ _) _)).1 (fun _ _ => trivial)) (C_new8s _ [0, 0, 0, (l0_8.length : Int) % 256] (by simp) _ (by simp)) (fun _ _ h => h) (fun _ h => h.elim) (fun _ _ => trivial) (HW2.out.below (below_alloc (Below.refl _ _) _)).2 (HW2.out.below (below_alloc (Below.refl _ _) _)).2.size (by simp) ?_; intro vt wt rt bt gt _; have ht : Bv w1 wt vt (fun _ => True) ([34, a0_2, 0, 0] ++ [0, 0, 0, (l0_8.length : Int) % 256]) := ⟨rt, bt⟩; obtain ⟨xt, hxt⟩ : ∃ x, ([34, a0_2, 0, 0] ++ [0, 0, 0, (l0_8.length : Int) % 256]) = x := ⟨_, rfl⟩; rw [hxt] at rt ht; obtain ⟨At, ct, rfl⟩ := Kd.R_slice rt; have HWt := Aside0.mk ht; have HXt := Aside0.mk hxt; clear n0 n1 n2 n3 n4 n5 n6 n7 n8 m0 m1 m2 m3 m4 m5 m6 m7 m8; obtain ⟨m0, m1, m2, m3, m4, m5, m6, m7, m8⟩ := HM.out.cells ht.2; clear ht rt bt gt hxt)
          have HX4b : Aside0 (refRecs k xt l0_8 = some x4) := ⟨by rw [← HXt.out]; exact HX4a.out⟩
          clear HX4a HXt
          go_loopw [5, 6] (fun vb vi wr => ∃ (x : Nat) (xs : List Int), vi = .int .i64 x ∧ x ≤ l0_8.length ∧ Aside0 (Bv w1 wr vb (fun _ => True) xs) ∧ Aside0 (refRecs k xs (l0_8.drop x) = some x4)) (fun _ vi _ => l0_8.length - (intOf vi).toNat)
          case atStart => exact ⟨0, xt, rfl, by omega, HWt, ⟨by simpa using HX4b.out⟩⟩
          case round =>
            clear HWt HX4b m0 m1 m2 m3 m4 m5 m6 m7 m8
            obtain ⟨x, xs, rfl, hx, HX, HR⟩ := hrel
            obtain ⟨Ab, cb, rfl⟩ := Kd.R_slice HX.out.1
            obtain ⟨m0, m1, m2, m3, m4, m5, m6, m7, m8⟩ := HM.out.cells HX.out.2
            by_cases hlt : x < l0_8.length
            · obtain ⟨ad0, B0, e0, rfl, q0, q1, q2, q3, q4⟩ := at_T44 (Kd.C_below HR8.out HB1.out) (x : Int) (by omega) (by omega)
              simp only [Int.toNat_natCast] at q0 q1 q2
              have hr := HR.out
              rw [List.drop_eq_getElem_cons hlt, ← rdT44_eq l0_8 x hlt] at hr
              simp only [refRecs] at hr
              generalize rd_T44 l0_8 (x : Int) = a at q0 q1 q2 q3 q4 hr
              by_cases hlx : xs.length + 2 ≤ 140737488355328
              · rw [if_pos hlx] at hr
                obtain ⟨b2, hb2, hr2⟩ := Option.bind_eq_some_iff.mp hr
                have HB2 := Aside0.mk hb2
                have HRR := Aside0.mk hr2
                have Q4 := Aside0.mk q4
                have Q1 := Aside0.mk q1
                have Q2 := Aside0.mk q2
                have p0 := pw_cell_below (below_alloc (Below.refl _ _) (.cells #[.int .u8 a.f0, .int .u8 0] 5)) (pw_cell_below HX.out.2 q0)
                have p0' := pw_cell_below HX.out.2 q0
                clear hr hb2 hr2 q0 q1 q2 q4 HR
                go_wp2_with ((with_reducible refine gate_builtin (b := .append) (xs := #[.tmp 34, .tmp 41]) rfl ?_); refine Kd.R_append_rows (Kd.int .u8) w1.heap.size rfl (.tmp 34) (.tmp 41) 30 5 (.int .u8 0) 1 rfl Try.underlying30 info5 rfl (by decide) (by decide) (.slice Ab xs.length cb) xs [a.f0, 0] (some ⟨wr.heap.size, 0, none⟩) ([a.f0, 0]).length 2 (fun _ => True) (fun _ => False) rfl rfl (Kd.R_mono (HX.out.below (below_alloc (Below.refl _ _) _)).1 (fun _ _ => trivial)) (C_new8 wr [a.f0, 0] (by simp)) (fun _ _ h => h) (fun _ h => h.elim) (fun _ _ => trivial) (HX.out.below (below_alloc (Below.refl _ _) _)).2 (HX.out.below (below_alloc (Below.refl _ _) _)).2.size (by simp; omega) ?_; intro v7 w7 r7 b7 g7 _; have h7 : Bv w1 w7 v7 (fun _ => True) (xs ++ [a.f0, 0]) := ⟨r7, b7⟩; obtain ⟨x7, hx7⟩ : ∃ x, (xs ++ [a.f0, 0]) = x := ⟨_, rfl⟩; rw [hx7] at r7 h7; obtain ⟨A7, c7, rfl⟩ := Kd.R_slice r7; have HW7 := Aside0.mk h7; have HX7 := Aside0.mk hx7; clear m0 m1 m2 m3 m4 m5 m6 m7 m8; obtain ⟨m0, m1, m2, m3, m4, m5, m6, m7, m8⟩ := HM.out.cells h7.2; clear h7 r7 b7 g7 hx7)
                have hb2 : stolonref05_rows.f k x7 (refBytes a.f1) a.f2 = some b2 := by rw [← HX7.out]; exact HB2.out
                have HB2b := Aside0.mk hb2
                have p1 := pw_cell_below HW7.out.2 Q1.out
                have p2 := pw_cell_below HW7.out.2 Q2.out
                clear hb2 HB2 HX p0 p0'
                have E21 : Aside0 (Calls Try.prog 21 #[.int .u32 a.f1] w7.drew fun e w' => ∃ v8, e = .returned v8 ∧ Aside0 (Kd.R (Kd.int .u8) 5 w' w7.heap.size (fun _ => True) v8 (refBytes a.f1) ∧ Below w7.heap.size w7 w') ∧ w'.cell? ⟨w.heap.size, 8, none⟩ = some (.slice (some ad0) l0_8.length c0_8) ∧ w'.cell? ⟨(ad0.add (x * 3)).block, (ad0.add (x * 3)).off + 1, none⟩ = some (.int .u32 a.f1) ∧ w'.cell? ⟨(ad0.add (x * 3)).block, (ad0.add (x * 3)).off + 2, none⟩ = some (.slice B0 a.f2.length e0)) :=
                  ⟨(stolonref01_Bytes.calls a.f1 (refBytes a.f1) _ (refBytes_f a.f1)).mono fun e w' ⟨v8, h1, h2, h3⟩ => ⟨v8, h1, ⟨h2, (below_drew (Below.refl w7.heap.size w7)).trans h3⟩, pw_cell_below h3 m8, pw_cell_below h3 p1, pw_cell_below h3 p2⟩⟩
                have E20 : Aside0 (∀ v8 w8, Aside0 (Kd.R (Kd.int .u8) 5 w8 w7.heap.size (fun _ => True) v8 (refBytes a.f1) ∧ Below w7.heap.size w7 w8) → Calls Try.prog 20 #[.slice A7 x7.length c7, v8, .slice B0 a.f2.length e0] w8 fun e w' => ∃ A9 c9, e = .returned (.slice A9 b2.length c9) ∧ Aside0 (Bv w1 w' (.slice A9 b2.length c9) (fun _ => True) b2) ∧ w'.cell? ⟨w.heap.size, 8, none⟩ = some (.slice (some ad0) l0_8.length c0_8) ∧ w'.cell? ⟨(ad0.add (x * 3)).block, (ad0.add (x * 3)).off + 1, none⟩ = some (.int .u32 a.f1) ∧ w'.cell? ⟨(ad0.add (x * 3)).block, (ad0.add (x * 3)).off + 2, none⟩ = some (.slice B0 a.f2.length e0)) := by
                  refine ⟨fun v8 w8 q8 => ?_⟩
                  obtain ⟨hR8, hb8⟩ := q8.out
                  obtain ⟨A8, c8, rfl⟩ := Kd.R_slice hR8
                  refine (stolonref05_rows.calls k (fun k_ => w1.heap.size ≤ k_ ∧ k_ < w7.heap.size) (.slice A7 x7.length c7) x7 A8 c8 (refBytes a.f1) B0 e0 a.f2 b2 w1 _ (HW7.out.2.trans (hb8.mono HW7.out.2.size)) (Kd.R_below (Kd.R_mono (Kd.R_bound HW7.out.1) (fun _ hk => ⟨hk.2.1, hk.2.2.1⟩)) hb8) (Kd.C_kept_own (Kd.R_bound hR8) (fun k_ hk hs => by have h1 : w7.heap.size ≤ k_ := hk.2.1; omega)) (Kd.R_reads' hR8).2.1 (Kd.C_kept_came (Kd.heap_int _) Q4.out (HW7.out.2.trans (hb8.mono HW7.out.2.size)) (fun _ hs => hs.1)) q3 HB2b.out).mono ?_
                  rintro e w9 ⟨v9, rfl, hR9, hb9, _⟩
                  obtain ⟨A9, c9, rfl⟩ := Kd.R_slice hR9
                  obtain ⟨t0, t1, t2, t3, t4, t5, t6, t7, t8⟩ := HM.out.cells hb9
                  exact ⟨A9, c9, rfl, ⟨⟨Kd.R_mono hR9 (fun _ _ => trivial), hb9⟩⟩, t8, pw_cell_below hb9 Q1.out, pw_cell_below hb9 Q2.out⟩
                go_region_held3 (fun w' => w'.cell? ⟨w.heap.size, 8, none⟩ = some (.slice (some ad0) l0_8.length c0_8) ∧ w'.cell? ⟨(ad0.add (x * 3)).block, (ad0.add (x * 3)).off + 1, none⟩ = some (.int .u32 a.f1) ∧ w'.cell? ⟨(ad0.add (x * 3)).block, (ad0.add (x * 3)).off + 2, none⟩ = some (.slice B0 a.f2.length e0)) (first | exact ⟨m8, p1, p2⟩ | exact ⟨s8, s1, s2⟩ | exact ⟨t8, t1, t2⟩) (first | (go_at_call 21; refine E21.out.mono ?_; rintro e w8 ⟨v8, rfl, q8, s8, s1, s2⟩) | (go_at_call 20; refine (E20.out _ _ q8).mono ?_; rintro e w9 ⟨A9, c9, rfl, HW9, t8, t1, t2⟩))
                all_goals
                  go_wp2
                  go_roundw
                  case measure => simp [intOf]; omega
                  case rel => exact ⟨x + 1, b2, by go_num, by omega, HW9, HRR⟩
              · rw [if_neg hlx] at hr
                cases hr
            · have hr := HR.out
              rw [List.drop_of_length_le (by omega)] at hr
              simp only [refRecs] at hr
              obtain rfl := Option.some.inj hr
              obtain ⟨w4, rfl⟩ : ∃ w4, w4 = wr := ⟨_, rfl⟩
              obtain ⟨A4, rfl⟩ : ∃ A4, A4 = Ab := ⟨_, rfl⟩
              obtain ⟨c4, rfl⟩ : ∃ c4, c4 = cb := ⟨_, rfl⟩
              have HW4 := HX
              clear HX HR hr
              have hys := HYS.out
              unfold refC at hys
              rw [if_pos rfl] at hys
              by_cases hl4 : xs.length + 2 ≤ 140737488355328
              · rw [if_pos hl4] at hys
                have HYS2 := Aside0.mk hys
                clear hys HYS
                go_wp2_with ((with_reducible refine gate_builtin (b := .append) (xs := #[.tmp 72, .tmp 76]) rfl ?_); refine Kd.R_append_rows (Kd.int .u8) w1.heap.size rfl (.tmp 72) (.tmp 76) 30 5 (.int .u8 0) 1 rfl Try.underlying30 info5 rfl (by decide) (by decide) (.slice A4 xs.length c4) xs [refFlags true a0_5, a0_6] (some ⟨w4.heap.size, 0, none⟩) ([refFlags true a0_5, a0_6]).length 2 (fun _ => True) (fun _ => False) rfl rfl (Kd.R_mono (HW4.out.below (below_alloc (Below.refl _ _) _)).1 (fun _ _ => trivial)) (C_new8 w4 [refFlags true a0_5, a0_6] (by simp)) (fun _ _ h => h) (fun _ h => h.elim) (fun _ _ => trivial) (HW4.out.below (below_alloc (Below.refl _ _) _)).2 (HW4.out.below (below_alloc (Below.refl _ _) _)).2.size (by have := hl4; simp; omega) ?_; intro v5 w5 r5 b5 g5 _; have h5 : Bv w1 w5 v5 (fun _ => True) (xs ++ [refFlags true a0_5, a0_6]) := ⟨r5, b5⟩; obtain ⟨x5, hx5⟩ : ∃ x, (xs ++ [refFlags true a0_5, a0_6]) = x := ⟨_, rfl⟩; rw [hx5] at r5 h5; obtain ⟨A5, c5, rfl⟩ := Kd.R_slice r5; have HW5 := Aside0.mk h5; have HX5 := Aside0.mk hx5; clear m0 m1 m2 m3 m4 m5 m6 m7 m8; obtain ⟨m0, m1, m2, m3, m4, m5, m6, m7, m8⟩ := HM.out.cells h5.2; clear h5 r5 b5 g5 hx5)
                have HBN := Aside0.mk (HW5.out.bound)
                have hys5 : stolonref05_rows.f k x5 [] l0_7 = some ys := by rw [← HX5.out]; exact HYS2.out
                have HYS5 := Aside0.mk hys5
                clear hys5
                refine (stolonref05_rows.calls k _ _ x5 none 0 [] A0_7 c0_7 l0_7 ys w1 _ HBN.out.2 (Kd.R_mono (Kd.R_bound HBN.out.1) (ok' := fun k_ => w1.heap.size ≤ k_) (fun _ hk => hk.2.1)) Kd.C_kept_nil (by simp) (Kd.C_kept_came (Kd.heap_int _) (Kd.C_below HR7.out HB1.out) HBN.out.2 (fun _ hk => hk)) hc0_7 HYS5.out).mono ?_
                rintro e w6 ⟨v6, rfl, hR6, hb6, _⟩
                have HW6 : Aside0 (Bv w1 w6 v6 (fun _ => True) ys) := ⟨⟨Kd.R_mono hR6 (fun _ _ => trivial), hb6⟩⟩
                clear hR6 hb6 HBN
                obtain ⟨A9, c9, rfl, hle9, hC9⟩ := Kd.R_reads HW6.out.1
                have HB6 := Aside0.mk (HB1.out.trans (HW6.out.2.mono HB1.out.size))
                have HC9 := Aside0.mk hC9
                clear hC9 HW6
                go_wp2_with fail
                refine (stolonref02_Put.calls k A9 c9 ys 2 r1 r2 _ HC9.out hle9 H.out).mono ?_
                rintro e w9 ⟨v9, rfl, hR9, hb9⟩
                obtain ⟨A10, c10, rfl⟩ := Kd.R_slice hR9
                have HR9 := Aside0.mk hR9
                have HB9 := Aside0.mk hb9
                clear hR9 hb9
                go_wp2
                go_ret2
                exact ⟨_, rfl, Kd.R_lower HR9.out HB6.out.size, HB6.out.trans (HB9.out.mono HB6.out.size)⟩
              · rw [if_neg hl4] at hys
                cases hys
        · have hx4 := HX4.out
          unfold refB at hx4
          rw [if_neg h34] at hx4
          obtain rfl := Option.some.inj hx4
          have h34b : (a0_0 == 34) = false := beq_eq_false_iff_ne.mpr h34
          clear h34 hx4 HX4
          obtain ⟨n0, n1, n2, n3, n4, n5, n6, n7, n8⟩ := HM.out.cells HW2.out.2
          go_wp2_with fail
          refine (stolonref01_Bytes.calls a0_3 (refBytes a0_3) _ (refBytes_f a0_3)).mono ?_
          rintro e w3 ⟨v3, rfl, hR3, hb3⟩
          obtain ⟨A3, c3, rfl, _, hC3⟩ := Kd.R_reads hR3
          have HW3 := Aside0.mk (HW2.out.below hb3)
          have HC3 := Aside0.mk hC3
          have hn3 : (refBytes a0_3).length ≤ 100 := by simp [refBytes, stolonref01_Bytes.f]
          clear hR3 hb3 hC3 m0 m1 m2 m3 m4 m5 m6 m7 m8 n0 n1 n2 n3 n4 n5 n6 n7 n8
          obtain ⟨n0, n1, n2, n3, n4, n5, n6, n7, n8⟩ := HM.out.cells HW3.out.2
          have hys := HYS.out
          unfold refC at hys
          rw [if_pos rfl] at hys
          by_cases hl4 : ([a0_0, a0_2, 0, 0] ++ refBytes a0_3).length + 2 ≤ 140737488355328
          · rw [if_pos hl4] at hys
            have HL4 := Aside0.mk hl4
            have HYS1 := Aside0.mk hys
            clear hys HYS hl4
            go_wp2_with (first | ((with_reducible refine gate_builtin (b := .append) (xs := #[.tmp 58, .tmp 61]) rfl ?_); refine Kd.R_append_rows (Kd.int .u8) w1.heap.size rfl (.tmp 58) (.tmp 61) 30 5 (.int .u8 0) 1 rfl Try.underlying30 info5 rfl (by decide) (by decide) (.slice (some ⟨w1.heap.size, 0, none⟩) 4 4) [a0_0, a0_2, 0, 0] (refBytes a0_3) A3 ((refBytes a0_3)).length c3 (fun _ => True) (fun _ => False) rfl rfl (Kd.R_mono HW3.out.1 (fun _ _ => trivial)) HC3.out (fun _ _ h => h) (fun _ h => h.elim) (fun _ _ => trivial) HW3.out.2 HW3.out.2.size (by simp; omega) ?_; intro v4 w4 r4 b4 g4 _; have h4 : Bv w1 w4 v4 (fun _ => True) ([a0_0, a0_2, 0, 0] ++ (refBytes a0_3)) := ⟨r4, b4⟩; obtain ⟨x4, hx4⟩ : ∃ x, ([a0_0, a0_2, 0, 0] ++ (refBytes a0_3)) = x := ⟨_, rfl⟩; rw [hx4] at r4 h4; obtain ⟨A4, c4, rfl⟩ := Kd.R_slice r4; have HW4 := Aside0.mk h4; have HX4 := Aside0.mk hx4; clear n0 n1 n2 n3 n4 n5 n6 n7 n8; obtain ⟨m0, m1, m2, m3, m4, m5, m6, m7, m8⟩ := HM.out.cells h4.2; clear h4 r4 b4 g4 hx4) | ((with_reducible refine gate_builtin (b := .append) (xs := #[.tmp 72, .tmp 76]) rfl ?_); refine Kd.R_append_rows (Kd.int .u8) w1.heap.size rfl (.tmp 72) (.tmp 76) 30 5 (.int .u8 0) 1 rfl Try.underlying30 info5 rfl (by decide) (by decide) (.slice A4 x4.length c4) x4 [refFlags true a0_5, a0_6] (some ⟨w4.heap.size, 0, none⟩) ([refFlags true a0_5, a0_6]).length 2 (fun _ => True) (fun _ => False) rfl rfl (Kd.R_mono (HW4.out.below (below_alloc (Below.refl _ _) _)).1 (fun _ _ => trivial)) (C_new8 w4 [refFlags true a0_5, a0_6] (by simp)) (fun _ _ h => h) (fun _ h => h.elim) (fun _ _ => trivial) (HW4.out.below (below_alloc (Below.refl _ _) _)).2 (HW4.out.below (below_alloc (Below.refl _ _) _)).2.size (by have h1 := HL4.out; rw [HX4.out] at h1; simp; omega) ?_; intro v5 w5 r5 b5 g5 _; have h5 : Bv w1 w5 v5 (fun _ => True) (x4 ++ [refFlags true a0_5, a0_6]) := ⟨r5, b5⟩; obtain ⟨x5, hx5⟩ : ∃ x, (x4 ++ [refFlags true a0_5, a0_6]) = x := ⟨_, rfl⟩; rw [hx5] at r5 h5; obtain ⟨A5, c5, rfl⟩ := Kd.R_slice r5; have HW5 := Aside0.mk h5; have HX5 := Aside0.mk hx5; clear m0 m1 m2 m3 m4 m5 m6 m7 m8; obtain ⟨m0, m1, m2, m3, m4, m5, m6, m7, m8⟩ := HM.out.cells h5.2; clear h5 r5 b5 g5 hx5))
            have HYS2 : Aside0 (stolonref05_rows.f k (x4 ++ [refFlags true a0_5, a0_6]) [] l0_7 = some ys) := ⟨by rw [← HX4.out]; exact HYS1.out⟩
            have HBN := Aside0.mk (HW5.out.bound)
            have hys5 : stolonref05_rows.f k x5 [] l0_7 = some ys := by rw [← HX5.out]; exact HYS2.out
            have HYS5 := Aside0.mk hys5
            clear hys5
            refine (stolonref05_rows.calls k _ _ x5 none 0 [] A0_7 c0_7 l0_7 ys w1 _ HBN.out.2 (Kd.R_mono (Kd.R_bound HBN.out.1) (ok' := fun k_ => w1.heap.size ≤ k_) (fun _ hk => hk.2.1)) Kd.C_kept_nil (by simp) (Kd.C_kept_came (Kd.heap_int _) (Kd.C_below HR7.out HB1.out) HBN.out.2 (fun _ hk => hk)) hc0_7 HYS5.out).mono ?_
            rintro e w6 ⟨v6, rfl, hR6, hb6, _⟩
            have HW6 : Aside0 (Bv w1 w6 v6 (fun _ => True) ys) := ⟨⟨Kd.R_mono hR6 (fun _ _ => trivial), hb6⟩⟩
            clear hR6 hb6 HBN
            obtain ⟨A9, c9, rfl, hle9, hC9⟩ := Kd.R_reads HW6.out.1
            have HB6 := Aside0.mk (HB1.out.trans (HW6.out.2.mono HB1.out.size))
            have HC9 := Aside0.mk hC9
            clear hC9 HW6
            go_wp2_with fail
            refine (stolonref02_Put.calls k A9 c9 ys 2 r1 r2 _ HC9.out hle9 H.out).mono ?_
            rintro e w9 ⟨v9, rfl, hR9, hb9⟩
            obtain ⟨A10, c10, rfl⟩ := Kd.R_slice hR9
            have HR9 := Aside0.mk hR9
            have HB9 := Aside0.mk hb9
            clear hR9 hb9
            go_wp2
            go_ret2
            exact ⟨_, rfl, Kd.R_lower HR9.out HB6.out.size, HB6.out.trans (HB9.out.mono HB6.out.size)⟩
          · rw [if_neg hl4] at hys
            cases hys
    · have h3b : (a0_1 == 3) = false := beq_eq_false_iff_ne.mpr h3
      by_cases h34 : a0_0 = 34
      · subst h34
        have hx4 := HX4.out
        unfold refB at hx4
        rw [if_pos rfl] at hx4
        have HX4a := Aside0.mk hx4
        clear hx4 HX4
        obtain ⟨n0, n1, n2, n3, n4, n5, n6, n7, n8⟩ := HM.out.cells HW2.out.2
        go_wp2_with ((with_reducible refine gate_builtin (b := .append) (xs := #[.tmp 20, .tmp 25]) rfl ?_); refine Kd.R_append_rows (Kd.int .u8) w1.heap.size rfl (.tmp 20) (.tmp 25) 30 5 (.int .u8 0) 1 rfl Try.underlying30 info5 rfl (by decide) (by decide) (.slice (some ⟨w1.heap.size, 0, none⟩) 4 4) [34, a0_2, 0, 0] [0, 0, 0, (l0_8.length : Int) % 256] (some ⟨w1.heap.size + 1, 0, none⟩) ([0, 0, 0, (l0_8.length : Int) % 256]).length 4 (fun _ => True) (fun _ => False) rfl rfl (Kd.R_mono (HW2.out.below (below_alloc (Below.refl _ _) _)).1 (fun _ _ => trivial)) (C_new8s _ [0, 0, 0, (l0_8.length : Int) % 256] (by simp) _ (by simp)) (fun _ _ h => h) (fun _ h => h.elim) (fun _ _ => trivial) (HW2.out.below (below_alloc (Below.refl _ _) _)).2 (HW2.out.below (below_alloc (Below.refl _ _) _)).2.size (by simp) ?_; intro vt wt rt bt gt _; have ht : Bv w1 wt vt (fun _ => True) ([34, a0_2, 0, 0] ++ [0, 0, 0, (l0_8.length : Int) % 256]) := ⟨rt, bt⟩; obtain ⟨xt, hxt⟩ : ∃ x, ([34, a0_2, 0, 0] ++ [0, 0, 0, (l0_8.length : Int) % 256]) = x := ⟨_, rfl⟩; rw [hxt] at rt ht; obtain ⟨At, ct, rfl⟩ := Kd.R_slice rt; have HWt := Aside0.mk ht; have HXt := Aside0.mk hxt; clear n0 n1 n2 n3 n4 n5 n6 n7 n8 m0 m1 m2 m3 m4 m5 m6 m7 m8; obtain ⟨m0, m1, m2, m3, m4, m5, m6, m7, m8⟩ := HM.out.cells ht.2; clear ht rt bt gt hxt)
        have HX4b : Aside0 (refRecs k xt l0_8 = some x4) := ⟨by rw [← HXt.out]; exact HX4a.out⟩
        clear HX4a HXt
        go_loopw [5, 6] (fun vb vi wr => ∃ (x : Nat) (xs : List Int), vi = .int .i64 x ∧ x ≤ l0_8.length ∧ Aside0 (Bv w1 wr vb (fun _ => True) xs) ∧ Aside0 (refRecs k xs (l0_8.drop x) = some x4)) (fun _ vi _ => l0_8.length - (intOf vi).toNat)
        case atStart => exact ⟨0, xt, rfl, by omega, HWt, ⟨by simpa using HX4b.out⟩⟩
        case round =>
          clear HWt HX4b m0 m1 m2 m3 m4 m5 m6 m7 m8
          obtain ⟨x, xs, rfl, hx, HX, HR⟩ := hrel
          obtain ⟨Ab, cb, rfl⟩ := Kd.R_slice HX.out.1
          obtain ⟨m0, m1, m2, m3, m4, m5, m6, m7, m8⟩ := HM.out.cells HX.out.2
          by_cases hlt : x < l0_8.length
          · obtain ⟨ad0, B0, e0, rfl, q0, q1, q2, q3, q4⟩ := at_T44 (Kd.C_below HR8.out HB1.out) (x : Int) (by omega) (by omega)
            simp only [Int.toNat_natCast] at q0 q1 q2
            have hr := HR.out
            rw [List.drop_eq_getElem_cons hlt, ← rdT44_eq l0_8 x hlt] at hr
            simp only [refRecs] at hr
            generalize rd_T44 l0_8 (x : Int) = a at q0 q1 q2 q3 q4 hr
            by_cases hlx : xs.length + 2 ≤ 140737488355328
            · rw [if_pos hlx] at hr
              obtain ⟨b2, hb2, hr2⟩ := Option.bind_eq_some_iff.mp hr
              have HB2 := Aside0.mk hb2
              have HRR := Aside0.mk hr2
              have Q4 := Aside0.mk q4
              have Q1 := Aside0.mk q1
              have Q2 := Aside0.mk q2
              have p0 := pw_cell_below (below_alloc (Below.refl _ _) (.cells #[.int .u8 a.f0, .int .u8 0] 5)) (pw_cell_below HX.out.2 q0)
              have p0' := pw_cell_below HX.out.2 q0
              clear hr hb2 hr2 q0 q1 q2 q4 HR
              go_wp2_with ((with_reducible refine gate_builtin (b := .append) (xs := #[.tmp 34, .tmp 41]) rfl ?_); refine Kd.R_append_rows (Kd.int .u8) w1.heap.size rfl (.tmp 34) (.tmp 41) 30 5 (.int .u8 0) 1 rfl Try.underlying30 info5 rfl (by decide) (by decide) (.slice Ab xs.length cb) xs [a.f0, 0] (some ⟨wr.heap.size, 0, none⟩) ([a.f0, 0]).length 2 (fun _ => True) (fun _ => False) rfl rfl (Kd.R_mono (HX.out.below (below_alloc (Below.refl _ _) _)).1 (fun _ _ => trivial)) (C_new8 wr [a.f0, 0] (by simp)) (fun _ _ h => h) (fun _ h => h.elim) (fun _ _ => trivial) (HX.out.below (below_alloc (Below.refl _ _) _)).2 (HX.out.below (below_alloc (Below.refl _ _) _)).2.size (by simp; omega) ?_; intro v7 w7 r7 b7 g7 _; have h7 : Bv w1 w7 v7 (fun _ => True) (xs ++ [a.f0, 0]) := ⟨r7, b7⟩; obtain ⟨x7, hx7⟩ : ∃ x, (xs ++ [a.f0, 0]) = x := ⟨_, rfl⟩; rw [hx7] at r7 h7; obtain ⟨A7, c7, rfl⟩ := Kd.R_slice r7; have HW7 := Aside0.mk h7; have HX7 := Aside0.mk hx7; clear m0 m1 m2 m3 m4 m5 m6 m7 m8; obtain ⟨m0, m1, m2, m3, m4, m5, m6, m7, m8⟩ := HM.out.cells h7.2; clear h7 r7 b7 g7 hx7)
              have hb2 : stolonref05_rows.f k x7 (refBytes a.f1) a.f2 = some b2 := by rw [← HX7.out]; exact HB2.out
              have HB2b := Aside0.mk hb2
              have p1 := pw_cell_below HW7.out.2 Q1.out
              have p2 := pw_cell_below HW7.out.2 Q2.out
              clear hb2 HB2 HX p0 p0'
              have E21 : Aside0 (Calls Try.prog 21 #[.int .u32 a.f1] w7.drew fun e w' => ∃ v8, e = .returned v8 ∧ Aside0 (Kd.R (Kd.int .u8) 5 w' w7.heap.size (fun _ => True) v8 (refBytes a.f1) ∧ Below w7.heap.size w7 w') ∧ w'.cell? ⟨w.heap.size, 8, none⟩ = some (.slice (some ad0) l0_8.length c0_8) ∧ w'.cell? ⟨(ad0.add (x * 3)).block, (ad0.add (x * 3)).off + 1, none⟩ = some (.int .u32 a.f1) ∧ w'.cell? ⟨(ad0.add (x * 3)).block, (ad0.add (x * 3)).off + 2, none⟩ = some (.slice B0 a.f2.length e0)) :=
                ⟨(stolonref01_Bytes.calls a.f1 (refBytes a.f1) _ (refBytes_f a.f1)).mono fun e w' ⟨v8, h1, h2, h3⟩ => ⟨v8, h1, ⟨h2, (below_drew (Below.refl w7.heap.size w7)).trans h3⟩, pw_cell_below h3 m8, pw_cell_below h3 p1, pw_cell_below h3 p2⟩⟩
              have E20 : Aside0 (∀ v8 w8, Aside0 (Kd.R (Kd.int .u8) 5 w8 w7.heap.size (fun _ => True) v8 (refBytes a.f1) ∧ Below w7.heap.size w7 w8) → Calls Try.prog 20 #[.slice A7 x7.length c7, v8, .slice B0 a.f2.length e0] w8 fun e w' => ∃ A9 c9, e = .returned (.slice A9 b2.length c9) ∧ Aside0 (Bv w1 w' (.slice A9 b2.length c9) (fun _ => True) b2) ∧ w'.cell? ⟨w.heap.size, 8, none⟩ = some (.slice (some ad0) l0_8.length c0_8) ∧ w'.cell? ⟨(ad0.add (x * 3)).block, (ad0.add (x * 3)).off + 1, none⟩ = some (.int .u32 a.f1) ∧ w'.cell? ⟨(ad0.add (x * 3)).block, (ad0.add (x * 3)).off + 2, none⟩ = some (.slice B0 a.f2.length e0)) := by
                refine ⟨fun v8 w8 q8 => ?_⟩
                obtain ⟨hR8, hb8⟩ := q8.out
                obtain ⟨A8, c8, rfl⟩ := Kd.R_slice hR8
                refine (stolonref05_rows.calls k (fun k_ => w1.heap.size ≤ k_ ∧ k_ < w7.heap.size) (.slice A7 x7.length c7) x7 A8 c8 (refBytes a.f1) B0 e0 a.f2 b2 w1 _ (HW7.out.2.trans (hb8.mono HW7.out.2.size)) (Kd.R_below (Kd.R_mono (Kd.R_bound HW7.out.1) (fun _ hk => ⟨hk.2.1, hk.2.2.1⟩)) hb8) (Kd.C_kept_own (Kd.R_bound hR8) (fun k_ hk hs => by have h1 : w7.heap.size ≤ k_ := hk.2.1; omega)) (Kd.R_reads' hR8).2.1 (Kd.C_kept_came (Kd.heap_int _) Q4.out (HW7.out.2.trans (hb8.mono HW7.out.2.size)) (fun _ hs => hs.1)) q3 HB2b.out).mono ?_
                rintro e w9 ⟨v9, rfl, hR9, hb9, _⟩
                obtain ⟨A9, c9, rfl⟩ := Kd.R_slice hR9
                obtain ⟨t0, t1, t2, t3, t4, t5, t6, t7, t8⟩ := HM.out.cells hb9
                exact ⟨A9, c9, rfl, ⟨⟨Kd.R_mono hR9 (fun _ _ => trivial), hb9⟩⟩, t8, pw_cell_below hb9 Q1.out, pw_cell_below hb9 Q2.out⟩
              go_region_held3 (fun w' => w'.cell? ⟨w.heap.size, 8, none⟩ = some (.slice (some ad0) l0_8.length c0_8) ∧ w'.cell? ⟨(ad0.add (x * 3)).block, (ad0.add (x * 3)).off + 1, none⟩ = some (.int .u32 a.f1) ∧ w'.cell? ⟨(ad0.add (x * 3)).block, (ad0.add (x * 3)).off + 2, none⟩ = some (.slice B0 a.f2.length e0)) (first | exact ⟨m8, p1, p2⟩ | exact ⟨s8, s1, s2⟩ | exact ⟨t8, t1, t2⟩) (first | (go_at_call 21; refine E21.out.mono ?_; rintro e w8 ⟨v8, rfl, q8, s8, s1, s2⟩) | (go_at_call 20; refine (E20.out _ _ q8).mono ?_; rintro e w9 ⟨A9, c9, rfl, HW9, t8, t1, t2⟩))
              all_goals
                go_wp2
                go_roundw
                case measure => simp [intOf]; omega
                case rel => exact ⟨x + 1, b2, by go_num, by omega, HW9, HRR⟩
            · rw [if_neg hlx] at hr
              cases hr
          · have hr := HR.out
            rw [List.drop_of_length_le (by omega)] at hr
            simp only [refRecs] at hr
            obtain rfl := Option.some.inj hr
            obtain ⟨w4, rfl⟩ : ∃ w4, w4 = wr := ⟨_, rfl⟩
            obtain ⟨A4, rfl⟩ : ∃ A4, A4 = Ab := ⟨_, rfl⟩
            obtain ⟨c4, rfl⟩ : ∃ c4, c4 = cb := ⟨_, rfl⟩
            have HW4 := HX
            clear HX HR hr
            have hys := HYS.out
            unfold refC at hys
            rw [if_neg h3] at hys
            obtain rfl := Option.some.inj hys
            clear hys HYS h3
            have HW6 := HW4
            have h9 := Kd.R_reads' HW6.out.1
            have hle9 := h9.2.1
            have hC9 := h9.2.2
            have HB6 := Aside0.mk (HB1.out.trans (HW6.out.2.mono HB1.out.size))
            have HC9 := Aside0.mk hC9
            clear h9 hC9 HW6
            go_wp2_with fail
            refine (stolonref02_Put.calls k A4 c4 xs 2 r1 r2 _ HC9.out hle9 H.out).mono ?_
            rintro e w9 ⟨v9, rfl, hR9, hb9⟩
            obtain ⟨A10, c10, rfl⟩ := Kd.R_slice hR9
            have HR9 := Aside0.mk hR9
            have HB9 := Aside0.mk hb9
            clear hR9 hb9
            go_wp2
            go_ret2
            exact ⟨_, rfl, Kd.R_lower HR9.out HB6.out.size, HB6.out.trans (HB9.out.mono HB6.out.size)⟩
      · have hx4 := HX4.out
        unfold refB at hx4
        rw [if_neg h34] at hx4
        obtain rfl := Option.some.inj hx4
        have h34b : (a0_0 == 34) = false := beq_eq_false_iff_ne.mpr h34
        clear h34 hx4 HX4
        obtain ⟨n0, n1, n2, n3, n4, n5, n6, n7, n8⟩ := HM.out.cells HW2.out.2
        go_wp2_with fail
        refine (stolonref01_Bytes.calls a0_3 (refBytes a0_3) _ (refBytes_f a0_3)).mono ?_
        rintro e w3 ⟨v3, rfl, hR3, hb3⟩
        obtain ⟨A3, c3, rfl, _, hC3⟩ := Kd.R_reads hR3
        have HW3 := Aside0.mk (HW2.out.below hb3)
        have HC3 := Aside0.mk hC3
        have hn3 : (refBytes a0_3).length ≤ 100 := by simp [refBytes, stolonref01_Bytes.f]
        clear hR3 hb3 hC3 m0 m1 m2 m3 m4 m5 m6 m7 m8 n0 n1 n2 n3 n4 n5 n6 n7 n8
        obtain ⟨n0, n1, n2, n3, n4, n5, n6, n7, n8⟩ := HM.out.cells HW3.out.2
        have hys := HYS.out
        unfold refC at hys
        rw [if_neg h3] at hys
        have HYS1 := Aside0.mk (Option.some.inj hys)
        clear hys HYS h3
        go_wp2_with ((with_reducible refine gate_builtin (b := .append) (xs := #[.tmp 58, .tmp 61]) rfl ?_); refine Kd.R_append_rows (Kd.int .u8) w1.heap.size rfl (.tmp 58) (.tmp 61) 30 5 (.int .u8 0) 1 rfl Try.underlying30 info5 rfl (by decide) (by decide) (.slice (some ⟨w1.heap.size, 0, none⟩) 4 4) [a0_0, a0_2, 0, 0] (refBytes a0_3) A3 ((refBytes a0_3)).length c3 (fun _ => True) (fun _ => False) rfl rfl (Kd.R_mono HW3.out.1 (fun _ _ => trivial)) HC3.out (fun _ _ h => h) (fun _ h => h.elim) (fun _ _ => trivial) HW3.out.2 HW3.out.2.size (by simp; omega) ?_; intro v4 w4 r4 b4 g4 _; have h4 : Bv w1 w4 v4 (fun _ => True) ([a0_0, a0_2, 0, 0] ++ (refBytes a0_3)) := ⟨r4, b4⟩; obtain ⟨x4, hx4⟩ : ∃ x, ([a0_0, a0_2, 0, 0] ++ (refBytes a0_3)) = x := ⟨_, rfl⟩; rw [hx4] at r4 h4; obtain ⟨A4, c4, rfl⟩ := Kd.R_slice r4; have HW4 := Aside0.mk h4; have HX4 := Aside0.mk hx4; clear n0 n1 n2 n3 n4 n5 n6 n7 n8; obtain ⟨m0, m1, m2, m3, m4, m5, m6, m7, m8⟩ := HM.out.cells h4.2; clear h4 r4 b4 g4 hx4)
        obtain rfl : x4 = ys := by rw [← HX4.out]; exact HYS1.out
        have HW6 := HW4
        have h9 := Kd.R_reads' HW6.out.1
        have hle9 := h9.2.1
        have hC9 := h9.2.2
        have HB6 := Aside0.mk (HB1.out.trans (HW6.out.2.mono HB1.out.size))
        have HC9 := Aside0.mk hC9
        clear h9 hC9 HW6
        go_wp2_with fail
        refine (stolonref02_Put.calls k A4 c4 x4 2 r1 r2 _ HC9.out hle9 H.out).mono ?_
        rintro e w9 ⟨v9, rfl, hR9, hb9⟩
        obtain ⟨A10, c10, rfl⟩ := Kd.R_slice hR9
        have HR9 := Aside0.mk hR9
        have HB9 := Aside0.mk hb9
        clear hR9 hb9
        go_wp2
        go_ret2
        exact ⟨_, rfl, Kd.R_lower HR9.out HB6.out.size, HB6.out.trans (HB9.out.mono HB6.out.size)⟩
  · rw [Bool.not_eq_true] at hbt
    subst hbt
    rw [if_neg (by simp)] at h
    simp only [Option.some.injEq, Prod.mk.injEq] at h
    obtain ⟨rfl, rfl⟩ := h
    go_wp2
    go_ret2
    exact ⟨_, rfl, Kd.R_nil _ _ _ _ _, HB1.out⟩
end Go.Proofs.Ytafmjhmpnlkeiaa.P
