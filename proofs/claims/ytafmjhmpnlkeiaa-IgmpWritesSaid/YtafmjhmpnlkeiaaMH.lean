/- Seat 5's texts, merged by a program of this session: GEncode. Parts of the proof of IgmpWrites: whatever two messages, the law returns true. -/
import Derived.Test.YtafmjhmpnlkeiaaMG
import Derived.Test.YtafmjhmpnlkeiaaMA
import Derived.Test.YtafmjhmpnlkeiaaME
import Derived.Deep.RegionWith

/- igmp.Encode: the walk. -/
namespace Go.Proofs.Ytafmjhmpnlkeiaa.P
open Go.RowKit Go.Proofs.YtafmjhmpnlkeiaaW.PrintWords Go.Proofs.YtafmjhmpnlkeiaaW.PrintLast Go.Proofs.YtafmjhmpnlkeiaaW.PrintMore
set_option linter.unusedVariables false
set_option linter.unusedSimpArgs false

def recBytes (r : S44) : List Int := [r.f0, 0] ++ ([] ++ (lenBytes r.f2 ++ addrBytes r.f1) ++ layAddrs r.f2)
def recsBytes (l : List S44) : List Int := l.flatMap recBytes
theorem recsBytes_take (l : List S44) (x : Nat) (h : x < l.length) : recsBytes (l.take (x + 1)) = recsBytes (l.take x) ++ recBytes l[x] := by
  unfold recsBytes
  rw [List.take_succ_eq_append_getElem h, List.flatMap_append]
  simp
theorem recBytes_length (r : S44) : (recBytes r).length = 8 + 4 * r.f2.length := by
  have h1 := addrBytes_length r.f1
  have h2 := layAddrs_length r.f2
  simp [recBytes, lenBytes, h1, h2]
  omega
theorem recs_len (l : List S44) (x : Nat) (h : x < l.length) : (recsBytes (l.take x)).length + (recBytes l[x]).length ≤ (recsBytes l).length := by
  have h1 := congrArg List.length (recsBytes_take l x h)
  rw [List.length_append] at h1
  have h2 : recsBytes l = recsBytes (l.take (x + 1)) ++ recsBytes (l.drop (x + 1)) := by
    unfold recsBytes
    rw [← List.flatMap_append, List.take_append_drop]
  have h3 := congrArg List.length h2
  rw [List.length_append] at h3
  omega
def bodyA (k c : Int) : List Int := [k, c, 0, 0]
def bodyB (k g : Int) (recs : List S44) : List Int := if k = 34 then [0, 0, 0, (recs.length : Int) % 256] ++ recsBytes recs else addrBytes g
def flagsOf (q : Bool) (rb : Int) : Int := if q = true then bits .or .u8 rb 8 else rb
def bodyC (v : Int) (q : Bool) (rb e : Int) (srcs : List Int) : List Int := if v = 3 then [flagsOf q rb, e] ++ (lenBytes srcs ++ [] ++ layAddrs srcs) else []
def encBody (a0_0 a0_1 a0_2 a0_3 : Int) (a0_4 : Bool) (a0_5 a0_6 : Int) (l0_7 : List Int) (l0_8 : List S44) : List Int :=
  bodyA a0_0 a0_2 ++ bodyB a0_0 a0_3 l0_8 ++ bodyC a0_1 a0_4 a0_5 a0_6 l0_7
/-- The message's box, whole. -/
def MBox (w : World) (M : Nat) (a0_0 a0_1 a0_2 a0_3 : Int) (a0_4 : Bool) (a0_5 a0_6 : Int) (v7 v8 : Value) : Prop :=
  w.heap[M]? = some (.cells #[.int .u8 a0_0, .int .i64 a0_1, .int .u8 a0_2, .int .u32 a0_3, .bool a0_4, .int .u8 a0_5, .int .u8 a0_6, v7, v8] 27 (0, 0))
theorem MBox.cells {w1 w : World} {M : Nat} {a0_0 a0_1 a0_2 a0_3 : Int} {a0_4 : Bool} {a0_5 a0_6 : Int} {v7 v8 : Value} (h : MBox w1 M a0_0 a0_1 a0_2 a0_3 a0_4 a0_5 a0_6 v7 v8) (hb : Below w1.heap.size w1 w) :
    w.cell? ⟨M, 0, none⟩ = some (.int .u8 a0_0) ∧ w.cell? ⟨M, 1, none⟩ = some (.int .i64 a0_1) ∧ w.cell? ⟨M, 2, none⟩ = some (.int .u8 a0_2) ∧ w.cell? ⟨M, 3, none⟩ = some (.int .u32 a0_3) ∧ w.cell? ⟨M, 4, none⟩ = some (.bool a0_4) ∧
    w.cell? ⟨M, 5, none⟩ = some (.int .u8 a0_5) ∧ w.cell? ⟨M, 6, none⟩ = some (.int .u8 a0_6) ∧ w.cell? ⟨M, 7, none⟩ = some v7 ∧ w.cell? ⟨M, 8, none⟩ = some v8 := by
  have h2 := (hb.block _ (Array.getElem?_eq_some_iff.1 h).1).trans h
  refine ⟨?_, ?_, ?_, ?_, ?_, ?_, ?_, ?_, ?_⟩ <;> simp [World.cell?, h2]
theorem Wr.new (w1 : World) (S : Nat → Prop) : Wr w1 (w1.alloc (.cells #[.slice none 0 0] 47)) w1.heap.size S [] :=
  ⟨_, World.alloc_heap_new w1 _, Kd.R_nil _ _ _ _ _, Nat.le_refl _, below_alloc (Below.refl _ _) _⟩
theorem C_new8s (W : World) (l : List Int) (hl : l.length ≤ 140737488355328) (n : Nat) (hn : W.heap.size = n) : Kd.C (Kd.int .u8) (W.alloc (.cells (l.map (Value.int .u8)).toArray 5)) (some ⟨n, 0, none⟩) l.length l := by
  subst hn
  exact C_new8 W l hl
def igmp_Encode.f (k : Nat) (a0_0 : Int) (a0_1 : Int) (a0_2 : Int) (a0_3 : Int) (a0_4 : Bool) (a0_5 : Int) (a0_6 : Int) (l0_7 : List Int) (l0_8 : List (S44)) : Option (List Int × Int) :=
  (igmp_Right.f k a0_0 a0_1 a0_2 a0_3 a0_4 a0_5 a0_6 l0_7 l0_8).bind fun b => if b = true then (if (encBody a0_0 a0_1 a0_2 a0_3 a0_4 a0_5 a0_6 l0_7 l0_8).length + 8 ≤ 140737488355328 then sum_Put.f (encBody a0_0 a0_1 a0_2 a0_3 a0_4 a0_5 a0_6 l0_7 l0_8) 2 else none) else some ([], 1)
theorem igmp_Encode.mono : ∀ a0 a1 a2 a3 a4 a5 a6 a7 a8 k, LeO (igmp_Encode.f k a0 a1 a2 a3 a4 a5 a6 a7 a8) (igmp_Encode.f (k + 1) a0 a1 a2 a3 a4 a5 a6 a7 a8) := by
  intro a0 a1 a2 a3 a4 a5 a6 a7 a8 k
  unfold igmp_Encode.f
  exact LeO.bind (igmp_Right.mono _ _ _ _ _ _ _ _ _ _) (fun _ => LeO.refl _)
set_option maxHeartbeats 4000000 in
set_option maxRecDepth 100000 in
theorem igmp_Encode.calls (k : Nat) (a0_0 : Int) (a0_1 : Int) (a0_2 : Int) (a0_3 : Int) (a0_4 : Bool) (a0_5 : Int) (a0_6 : Int) (A0_7 : Option Addr) (c0_7 : Nat) (l0_7 : List Int) (A0_8 : Option Addr) (c0_8 : Nat) (l0_8 : List (S44)) (r1 : List Int) (r2 : Int) (w : World) (hr0_7 : Kd.C (Kd.int .u32) w A0_7 l0_7.length l0_7) (hc0_7 : l0_7.length ≤ c0_7) (hr0_8 : Kd.C k44 w A0_8 l0_8.length l0_8) (hc0_8 : l0_8.length ≤ c0_8) (h : igmp_Encode.f k a0_0 a0_1 a0_2 a0_3 a0_4 a0_5 a0_6 l0_7 l0_8 = some (r1, r2)) :
    Calls Try.prog 7 #[.agg #[.int .u8 a0_0, .int .i64 a0_1, .int .u8 a0_2, .int .u32 a0_3, .bool a0_4, .int .u8 a0_5, .int .u8 a0_6, .slice A0_7 l0_7.length c0_7, .slice A0_8 l0_8.length c0_8]] w fun e w' => ∃ v0_ : Value, e = .returned (.tuple #[v0_, .int .i64 r2]) ∧ Kd.R (Kd.int .u8) 5 w' w.heap.size (fun _ => True) v0_ r1 ∧ Below w.heap.size w w' := by
  have hu27 := Try.underlying27
  have hu44 := Try.underlying44
  have hu47 := Try.underlying47
  have HR7 := Aside0.mk hr0_7
  have HR8 := Aside0.mk hr0_8
  clear hr0_7 hr0_8
  have hn8 : l0_8.length ≤ 9223372036854775807 := HR8.out.2.1
  unfold igmp_Encode.f at h
  obtain ⟨b, hb, h⟩ := Option.bind_eq_some_iff.mp h
  have HRT := Aside0.mk hb
  clear hb
  go_enter Try.func7, Try.ntmps7
  go_wp2_with fail
  refine (igmp_Right.calls k a0_0 a0_1 a0_2 a0_3 a0_4 a0_5 a0_6 A0_7 c0_7 l0_7 A0_8 c0_8 l0_8 b _ (Kd.C_below HR7.out (below_alloc (Below.refl _ _) _)) hc0_7 (Kd.C_below HR8.out (below_alloc (Below.refl _ _) _)) hc0_8 HRT.out).mono ?_
  rintro e w1 ⟨rfl, hb1⟩
  have hM : MBox w1 w.heap.size a0_0 a0_1 a0_2 a0_3 a0_4 a0_5 a0_6 (.slice A0_7 l0_7.length c0_7) (.slice A0_8 l0_8.length c0_8) := (hb1.block _ (by simp)).trans (World.alloc_heap_new w _)
  have HM := Aside0.mk hM
  have HB1 := Aside0.mk ((below_alloc (Below.refl w.heap.size w) _).trans (hb1.mono (by simp)))
  have hlt1 : w.heap.size < w1.heap.size := by have := hb1.size; simp at this; omega
  clear hM hb1
  by_cases hbt : b = true
  · subst hbt
    rw [if_pos rfl] at h
    by_cases hlen : (encBody a0_0 a0_1 a0_2 a0_3 a0_4 a0_5 a0_6 l0_7 l0_8).length + 8 ≤ 140737488355328
    · rw [if_pos hlen] at h
      have H := Aside0.mk h
      have HLEN := Aside0.mk hlen
      clear h hlen
      obtain ⟨m0, m1, m2, m3, m4, m5, m6, m7, m8⟩ := HM.out.cells (Below.refl _ w1)
      go_wp2_with fail
      refine (lay16 w1 _ w1.heap.size (fun _ => True) [] (some ⟨w1.heap.size + 1, 0, none⟩) 4 (bodyA a0_0 a0_2) ((Wr.new w1 _).below (below_alloc (Below.refl _ _) _)) (C_new8s _ (bodyA a0_0 a0_2) (by simp [bodyA]) _ (by simp)) (by simp [bodyA])).mono ?_
      rintro e w2 ⟨rfl, hW2, _⟩
      have HW2 := Aside0.mk (hW2.mono (S' := fun _ => True) (fun _ _ => trivial))
      clear hW2
      obtain ⟨m0, m1, m2, m3, m4, m5, m6, m7, m8⟩ := HM.out.cells HW2.out.w0
      by_cases h34 : a0_0 = 34
      · subst h34
        go_wp2_with fail
        refine (lay16 w1 _ w1.heap.size (fun _ => True) ([] ++ bodyA 34 a0_2) (some ⟨w2.heap.size, 0, none⟩) 4 [0, 0, 0, (l0_8.length : Int) % 256] (HW2.out.below (below_alloc (Below.refl _ _) _)) (C_new8 w2 [0, 0, 0, (l0_8.length : Int) % 256] (by simp)) (by simp [bodyA])).mono ?_
        rintro e w3 ⟨rfl, hW3, _⟩
        have HW3 := Aside0.mk (hW3.mono (S' := fun _ => True) (fun _ _ => trivial))
        clear hW3 m0 m1 m2 m3 m4 m5 m6 m7 m8
        obtain ⟨m0, m1, m2, m3, m4, m5, m6, m7, m8⟩ := HM.out.cells HW3.out.w0
        obtain ⟨x3, hx3⟩ : ∃ x, [] ++ bodyA 34 a0_2 ++ [0, 0, 0, (l0_8.length : Int) % 256] = x := ⟨_, rfl⟩
        rw [hx3] at HW3
        have HX3 := Aside0.mk hx3
        clear hx3 HW2
        have hlim3 : Aside0 (x3.length + (recsBytes l0_8).length + 8 ≤ 140737488355328) := ⟨by have := HLEN.out; unfold encBody bodyB at this; rw [if_pos rfl] at this; have h2 := congrArg List.length HX3.out; simp at this h2; omega⟩
        go_wp2
        go_loopw [39] (fun v wr => ∃ x : Nat, v = .int .i64 x ∧ x ≤ l0_8.length ∧ Aside0 (Wr w1 wr w1.heap.size (fun _ => True) (x3 ++ recsBytes (l0_8.take x)))) (fun v _ => l0_8.length - (intOf v).toNat)
        case atStart => exact ⟨0, rfl, by omega, ⟨by simpa [recsBytes] using HW3.out⟩⟩
        case round =>
          clear HW3 m0 m1 m2 m3 m4 m5 m6 m7 m8
          obtain ⟨x, rfl, hx, HX⟩ := hrel
          by_cases hlt : x < l0_8.length
          · obtain ⟨ad0, B0, e0, rfl, q0, q1, q2, q3, q4⟩ := at_T44 (Kd.C_below HR8.out HB1.out) (x : Int) (by omega) (by omega)
            simp only [Int.toNat_natCast] at q0 q1 q2
            have ea := Aside0.mk (rdT44_eq l0_8 x hlt)
            generalize rd_T44 l0_8 (x : Int) = a at q0 q1 q2 q3 q4 ea
            have p0 := pw_cell_below HX.out.w0 q0
            have p1 := pw_cell_below HX.out.w0 q1
            have p2 := pw_cell_below HX.out.w0 q2
            have Q4 := Aside0.mk q4
            have hlim : Aside0 (x3.length + (recsBytes (l0_8.take x)).length + (recBytes a).length + 8 ≤ 140737488355328) := ⟨by have h1 := hlim3.out; have h2 := recs_len l0_8 x hlt; rw [← ea.out] at h2; omega⟩
            have hgl := HX.out.lt
            clear q0 q1 q2 q4
            go_wp2_with fail
            refine (lay16 w1 _ w1.heap.size (fun k => k < wr.heap.size ∧ k ≠ w1.heap.size) (x3 ++ recsBytes (l0_8.take x)) (some ⟨wr.heap.size + 1, 0, none⟩) 2 [a.f0, 0] ((HX.out.bound.below (below_alloc (Below.refl _ _) _)).below (below_alloc (Below.refl _ _) _)) (C_new8s _ [a.f0, 0] (by simp) _ (by simp)) (by have := hlim.out; have h2 := recBytes_length a; simp; omega)).mono ?_
            rintro e w5 ⟨rfl, hW5, hk5⟩
            have hr5 : w5.heap[wr.heap.size]? = some (.cells #[.int .u8 a.f0, .int .u32 a.f1, .slice B0 a.f2.length e0] 44 (0, 0)) := (hk5.2 _ (by simp; omega) (by simp; omega)).trans ((Below.heap_alloc _ _ _ (by simp)).trans (World.alloc_heap_new wr _))
            have r1 : w5.cell? ⟨wr.heap.size, 1, none⟩ = some (.int .u32 a.f1) := by simp [World.cell?, hr5]
            have r2 : w5.cell? ⟨wr.heap.size, 2, none⟩ = some (.slice B0 a.f2.length e0) := by simp [World.cell?, hr5]
            have HW5 := Aside0.mk hW5.bound
            have hg5 := hW5.lt
            clear hW5 hk5 hr5 p0 p1 p2 HX
            go_wp2
            go_region_with (first | (go_at_call 18; refine (addr_Bytes.calls 5 a.f1 (addrBytes a.f1) _ (addrBytes_f a.f1)).mono ?_; rintro e w6 ⟨v6, rfl, hR6, hb6⟩; obtain ⟨A6, c6, rfl⟩ := Kd.R_slice hR6; have s1 := pw_cell_below hb6 r1; have s2 := pw_cell_below hb6 r2; have HR6 := Aside0.mk hR6; have HB6 := Aside0.mk ((below_drew (Below.refl w5.heap.size w5)).trans hb6); clear hR6 hb6) | (go_at_call 17; refine (addrs17 w1 _ w1.heap.size _ (x3 ++ recsBytes (l0_8.take x) ++ [a.f0, 0]) _ _ (addrBytes a.f1) B0 e0 a.f2 (HW5.out.below HB6.out) (fun _ h => Nat.lt_of_lt_of_le h.1 HB6.out.size) (Kd.C_kept_own (Kd.R_bound HR6.out) (fun k hk hs => by have h1 : w5.heap.size ≤ k := hk.2.1; rcases hs with h2 | h2 <;> omega)) (by rw [addrBytes_length]; omega) Q4.out (by have := hlim.out; have h2 := recBytes_length a; simp; omega)).mono ?_; rintro e w7 ⟨rfl, hW7⟩; have HW7 := Aside0.mk hW7; clear hW7))
            all_goals
              go_wp2
              go_roundw
              case measure => simp [intOf]; omega
              case rel => exact ⟨x + 1, by go_num, by omega, ⟨by rw [recsBytes_take l0_8 x hlt, ← ea.out]; have h7 := HW7.out; simpa [recBytes, List.append_assoc] using h7⟩⟩
          · have hfin : recsBytes (l0_8.take x) = recsBytes l0_8 := by rw [List.take_of_length_le (by omega)]
            have HW4 : Aside0 (Wr w1 wr w1.heap.size (fun _ => True) (x3 ++ recsBytes l0_8)) := ⟨by rw [← hfin]; exact HX.out⟩
            clear hfin HX
            obtain ⟨w4, rfl⟩ : ∃ w4, w4 = wr := ⟨_, rfl⟩
            obtain ⟨m0, m1, m2, m3, m4, m5, m6, m7, m8⟩ := HM.out.cells HW4.out.w0
            have HB34 : Aside0 (bodyB 34 a0_3 l0_8 = ([0, 0, 0, (l0_8.length : Int) % 256] ++ recsBytes l0_8)) := ⟨by unfold bodyB; rw [if_pos rfl]⟩
            obtain ⟨x4, hx4⟩ : ∃ x, (x3 ++ recsBytes l0_8) = x := ⟨_, rfl⟩
            rw [hx4] at HW4
            have HX4 : Aside0 (bodyA 34 a0_2 ++ bodyB 34 a0_3 l0_8 = x4) := ⟨by rw [← hx4, HB34.out, ← HX3.out]; simp⟩
            clear hx4
            by_cases h3 : a0_1 = 3
            · subst h3
              cases a0_4 with
              | false =>
                go_wp2_with fail
                refine (lay16 w1 _ w1.heap.size (fun _ => True) x4 (some ⟨w4.heap.size, 0, none⟩) 2 [flagsOf false a0_5, a0_6] (HW4.out.below (below_alloc (Below.refl _ _) _)) (C_new8 w4 [flagsOf false a0_5, a0_6] (by simp)) (by have := HLEN.out; unfold encBody at this; rw [HX4.out] at this; simp [bodyC] at this ⊢; omega)).mono ?_
                rintro e w5 ⟨rfl, hW5, _⟩
                have HW5a := Aside0.mk (hW5.bound)
                clear hW5 m0 m1 m2 m3 m4 m5 m6 m7 m8
                obtain ⟨m0, m1, m2, m3, m4, m5, m6, m7, m8⟩ := HM.out.cells HW5a.out.w0
                go_wp2_with fail
                refine (addrs17 w1 _ w1.heap.size _ (x4 ++ [flagsOf false a0_5, a0_6]) none 0 [] A0_7 c0_7 l0_7 HW5a.out (fun _ h => h.1) Kd.C_kept_nil (by simp) (Kd.C_below HR7.out HB1.out) (by have := HLEN.out; have h4 := layAddrs_length l0_7; unfold encBody at this; rw [HX4.out] at this; simp [bodyC, lenBytes, h4] at this ⊢; omega)).mono ?_
                rintro e w6 ⟨rfl, hW6⟩
                have HW5 := Aside0.mk hW6
                have HE : Aside0 (encBody 34 3 a0_2 a0_3 false a0_5 a0_6 l0_7 l0_8 = x4 ++ [flagsOf false a0_5, a0_6] ++ (lenBytes l0_7 ++ []) ++ layAddrs l0_7) := ⟨by unfold encBody; rw [HX4.out]; simp [bodyC]⟩
                clear hW6 HW5a m0 m1 m2 m3 m4 m5 m6 m7 m8
                obtain ⟨ys, hys⟩ : ∃ ys, encBody 34 3 a0_2 a0_3 false a0_5 a0_6 l0_7 l0_8 = ys := ⟨_, rfl⟩
                rw [← HE.out, hys] at HW5
                have HY := Aside0.mk hys
                clear hys
                obtain ⟨v, hv, hR, _, hb5⟩ := HW5.out
                obtain ⟨A9, c9, rfl, hle9, hC9⟩ := Kd.R_reads hR
                obtain ⟨k1, k2⟩ := one_cell hv
                have HB5 := Aside0.mk (HB1.out.trans (hb5.mono HB1.out.size))
                have HC9 := Aside0.mk hC9
                clear hv hR hb5 hC9 HW5
                go_wp2_with fail
                refine (sum_Put.calls A9 c9 ys 2 r1 r2 _ HC9.out hle9 (by rw [← HY.out]; exact H.out)).mono ?_
                rintro e w9 ⟨v9, rfl, hR9, hb9⟩
                obtain ⟨A10, c10, rfl⟩ := Kd.R_slice hR9
                have HR9 := Aside0.mk hR9
                have HB9 := Aside0.mk hb9
                clear hR9 hb9
                go_wp2
                go_ret2
                exact ⟨_, rfl, Kd.R_lower HR9.out HB5.out.size, HB5.out.trans (HB9.out.mono HB5.out.size)⟩
              | true =>
                go_wp2_with fail
                refine (lay16 w1 _ w1.heap.size (fun _ => True) x4 (some ⟨w4.heap.size, 0, none⟩) 2 [flagsOf true a0_5, a0_6] (HW4.out.below (below_alloc (Below.refl _ _) _)) (C_new8 w4 [flagsOf true a0_5, a0_6] (by simp)) (by have := HLEN.out; unfold encBody at this; rw [HX4.out] at this; simp [bodyC] at this ⊢; omega)).mono ?_
                rintro e w5 ⟨rfl, hW5, _⟩
                have HW5a := Aside0.mk (hW5.bound)
                clear hW5 m0 m1 m2 m3 m4 m5 m6 m7 m8
                obtain ⟨m0, m1, m2, m3, m4, m5, m6, m7, m8⟩ := HM.out.cells HW5a.out.w0
                go_wp2_with fail
                refine (addrs17 w1 _ w1.heap.size _ (x4 ++ [flagsOf true a0_5, a0_6]) none 0 [] A0_7 c0_7 l0_7 HW5a.out (fun _ h => h.1) Kd.C_kept_nil (by simp) (Kd.C_below HR7.out HB1.out) (by have := HLEN.out; have h4 := layAddrs_length l0_7; unfold encBody at this; rw [HX4.out] at this; simp [bodyC, lenBytes, h4] at this ⊢; omega)).mono ?_
                rintro e w6 ⟨rfl, hW6⟩
                have HW5 := Aside0.mk hW6
                have HE : Aside0 (encBody 34 3 a0_2 a0_3 true a0_5 a0_6 l0_7 l0_8 = x4 ++ [flagsOf true a0_5, a0_6] ++ (lenBytes l0_7 ++ []) ++ layAddrs l0_7) := ⟨by unfold encBody; rw [HX4.out]; simp [bodyC]⟩
                clear hW6 HW5a m0 m1 m2 m3 m4 m5 m6 m7 m8
                obtain ⟨ys, hys⟩ : ∃ ys, encBody 34 3 a0_2 a0_3 true a0_5 a0_6 l0_7 l0_8 = ys := ⟨_, rfl⟩
                rw [← HE.out, hys] at HW5
                have HY := Aside0.mk hys
                clear hys
                obtain ⟨v, hv, hR, _, hb5⟩ := HW5.out
                obtain ⟨A9, c9, rfl, hle9, hC9⟩ := Kd.R_reads hR
                obtain ⟨k1, k2⟩ := one_cell hv
                have HB5 := Aside0.mk (HB1.out.trans (hb5.mono HB1.out.size))
                have HC9 := Aside0.mk hC9
                clear hv hR hb5 hC9 HW5
                go_wp2_with fail
                refine (sum_Put.calls A9 c9 ys 2 r1 r2 _ HC9.out hle9 (by rw [← HY.out]; exact H.out)).mono ?_
                rintro e w9 ⟨v9, rfl, hR9, hb9⟩
                obtain ⟨A10, c10, rfl⟩ := Kd.R_slice hR9
                have HR9 := Aside0.mk hR9
                have HB9 := Aside0.mk hb9
                clear hR9 hb9
                go_wp2
                go_ret2
                exact ⟨_, rfl, Kd.R_lower HR9.out HB5.out.size, HB5.out.trans (HB9.out.mono HB5.out.size)⟩
            · have h3b : (a0_1 == 3) = false := beq_eq_false_iff_ne.mpr h3
              have HE : Aside0 (encBody 34 a0_1 a0_2 a0_3 a0_4 a0_5 a0_6 l0_7 l0_8 = x4) := ⟨by unfold encBody; rw [HX4.out]; simp [bodyC, h3]⟩
              have HW5 := HW4
              clear HW4 h3
              obtain ⟨ys, hys⟩ : ∃ ys, encBody 34 a0_1 a0_2 a0_3 a0_4 a0_5 a0_6 l0_7 l0_8 = ys := ⟨_, rfl⟩
              rw [← HE.out, hys] at HW5
              have HY := Aside0.mk hys
              clear hys
              obtain ⟨v, hv, hR, _, hb5⟩ := HW5.out
              obtain ⟨A9, c9, rfl, hle9, hC9⟩ := Kd.R_reads hR
              obtain ⟨k1, k2⟩ := one_cell hv
              have HB5 := Aside0.mk (HB1.out.trans (hb5.mono HB1.out.size))
              have HC9 := Aside0.mk hC9
              clear hv hR hb5 hC9 HW5
              go_wp2_with fail
              refine (sum_Put.calls A9 c9 ys 2 r1 r2 _ HC9.out hle9 (by rw [← HY.out]; exact H.out)).mono ?_
              rintro e w9 ⟨v9, rfl, hR9, hb9⟩
              obtain ⟨A10, c10, rfl⟩ := Kd.R_slice hR9
              have HR9 := Aside0.mk hR9
              have HB9 := Aside0.mk hb9
              clear hR9 hb9
              go_wp2
              go_ret2
              exact ⟨_, rfl, Kd.R_lower HR9.out HB5.out.size, HB5.out.trans (HB9.out.mono HB5.out.size)⟩
      · have h34b : (a0_0 == 34) = false := beq_eq_false_iff_ne.mpr h34
        have H34 := Aside0.mk h34
        clear h34
        go_wp2_with fail
        refine (addr_Bytes.calls 5 a0_3 (addrBytes a0_3) _ (addrBytes_f a0_3)).mono ?_
        rintro e w3 ⟨v3, rfl, hR3, hb3⟩
        obtain ⟨A3, c3, rfl, _, hC3⟩ := Kd.R_reads hR3
        have HW3 := Aside0.mk (HW2.out.below hb3)
        have HC3 := Aside0.mk hC3
        clear hR3 hb3 hC3 m0 m1 m2 m3 m4 m5 m6 m7 m8
        go_wp2_with fail
        refine (lay16 w1 _ w1.heap.size _ ([] ++ bodyA a0_0 a0_2) A3 c3 (addrBytes a0_3) HW3.out HC3.out (by have := addrBytes_length a0_3; simp [bodyA]; omega)).mono ?_
        rintro e w4 ⟨rfl, hW4, _⟩
        have HW4 := Aside0.mk (hW4.mono (S' := fun _ => True) (fun _ _ => trivial))
        clear hW4 HW3 HC3
        obtain ⟨m0, m1, m2, m3, m4, m5, m6, m7, m8⟩ := HM.out.cells HW4.out.w0
        have HB34 : Aside0 (bodyB a0_0 a0_3 l0_8 = addrBytes a0_3) := ⟨by unfold bodyB; rw [if_neg H34.out]⟩
        obtain ⟨x4, hx4⟩ : ∃ x, ([] ++ bodyA a0_0 a0_2 ++ addrBytes a0_3) = x := ⟨_, rfl⟩
        rw [hx4] at HW4
        have HX4 : Aside0 (bodyA a0_0 a0_2 ++ bodyB a0_0 a0_3 l0_8 = x4) := ⟨by rw [← hx4, HB34.out]; simp⟩
        clear hx4
        by_cases h3 : a0_1 = 3
        · subst h3
          cases a0_4 with
          | false =>
            go_wp2_with fail
            refine (lay16 w1 _ w1.heap.size (fun _ => True) x4 (some ⟨w4.heap.size, 0, none⟩) 2 [flagsOf false a0_5, a0_6] (HW4.out.below (below_alloc (Below.refl _ _) _)) (C_new8 w4 [flagsOf false a0_5, a0_6] (by simp)) (by have := HLEN.out; unfold encBody at this; rw [HX4.out] at this; simp [bodyC] at this ⊢; omega)).mono ?_
            rintro e w5 ⟨rfl, hW5, _⟩
            have HW5a := Aside0.mk (hW5.bound)
            clear hW5 m0 m1 m2 m3 m4 m5 m6 m7 m8
            obtain ⟨m0, m1, m2, m3, m4, m5, m6, m7, m8⟩ := HM.out.cells HW5a.out.w0
            go_wp2_with fail
            refine (addrs17 w1 _ w1.heap.size _ (x4 ++ [flagsOf false a0_5, a0_6]) none 0 [] A0_7 c0_7 l0_7 HW5a.out (fun _ h => h.1) Kd.C_kept_nil (by simp) (Kd.C_below HR7.out HB1.out) (by have := HLEN.out; have h4 := layAddrs_length l0_7; unfold encBody at this; rw [HX4.out] at this; simp [bodyC, lenBytes, h4] at this ⊢; omega)).mono ?_
            rintro e w6 ⟨rfl, hW6⟩
            have HW5 := Aside0.mk hW6
            have HE : Aside0 (encBody a0_0 3 a0_2 a0_3 false a0_5 a0_6 l0_7 l0_8 = x4 ++ [flagsOf false a0_5, a0_6] ++ (lenBytes l0_7 ++ []) ++ layAddrs l0_7) := ⟨by unfold encBody; rw [HX4.out]; simp [bodyC]⟩
            clear hW6 HW5a m0 m1 m2 m3 m4 m5 m6 m7 m8
            obtain ⟨ys, hys⟩ : ∃ ys, encBody a0_0 3 a0_2 a0_3 false a0_5 a0_6 l0_7 l0_8 = ys := ⟨_, rfl⟩
            rw [← HE.out, hys] at HW5
            have HY := Aside0.mk hys
            clear hys
            obtain ⟨v, hv, hR, _, hb5⟩ := HW5.out
            obtain ⟨A9, c9, rfl, hle9, hC9⟩ := Kd.R_reads hR
            obtain ⟨k1, k2⟩ := one_cell hv
            have HB5 := Aside0.mk (HB1.out.trans (hb5.mono HB1.out.size))
            have HC9 := Aside0.mk hC9
            clear hv hR hb5 hC9 HW5
            go_wp2_with fail
            refine (sum_Put.calls A9 c9 ys 2 r1 r2 _ HC9.out hle9 (by rw [← HY.out]; exact H.out)).mono ?_
            rintro e w9 ⟨v9, rfl, hR9, hb9⟩
            obtain ⟨A10, c10, rfl⟩ := Kd.R_slice hR9
            have HR9 := Aside0.mk hR9
            have HB9 := Aside0.mk hb9
            clear hR9 hb9
            go_wp2
            go_ret2
            exact ⟨_, rfl, Kd.R_lower HR9.out HB5.out.size, HB5.out.trans (HB9.out.mono HB5.out.size)⟩
          | true =>
            go_wp2_with fail
            refine (lay16 w1 _ w1.heap.size (fun _ => True) x4 (some ⟨w4.heap.size, 0, none⟩) 2 [flagsOf true a0_5, a0_6] (HW4.out.below (below_alloc (Below.refl _ _) _)) (C_new8 w4 [flagsOf true a0_5, a0_6] (by simp)) (by have := HLEN.out; unfold encBody at this; rw [HX4.out] at this; simp [bodyC] at this ⊢; omega)).mono ?_
            rintro e w5 ⟨rfl, hW5, _⟩
            have HW5a := Aside0.mk (hW5.bound)
            clear hW5 m0 m1 m2 m3 m4 m5 m6 m7 m8
            obtain ⟨m0, m1, m2, m3, m4, m5, m6, m7, m8⟩ := HM.out.cells HW5a.out.w0
            go_wp2_with fail
            refine (addrs17 w1 _ w1.heap.size _ (x4 ++ [flagsOf true a0_5, a0_6]) none 0 [] A0_7 c0_7 l0_7 HW5a.out (fun _ h => h.1) Kd.C_kept_nil (by simp) (Kd.C_below HR7.out HB1.out) (by have := HLEN.out; have h4 := layAddrs_length l0_7; unfold encBody at this; rw [HX4.out] at this; simp [bodyC, lenBytes, h4] at this ⊢; omega)).mono ?_
            rintro e w6 ⟨rfl, hW6⟩
            have HW5 := Aside0.mk hW6
            have HE : Aside0 (encBody a0_0 3 a0_2 a0_3 true a0_5 a0_6 l0_7 l0_8 = x4 ++ [flagsOf true a0_5, a0_6] ++ (lenBytes l0_7 ++ []) ++ layAddrs l0_7) := ⟨by unfold encBody; rw [HX4.out]; simp [bodyC]⟩
            clear hW6 HW5a m0 m1 m2 m3 m4 m5 m6 m7 m8
            obtain ⟨ys, hys⟩ : ∃ ys, encBody a0_0 3 a0_2 a0_3 true a0_5 a0_6 l0_7 l0_8 = ys := ⟨_, rfl⟩
            rw [← HE.out, hys] at HW5
            have HY := Aside0.mk hys
            clear hys
            obtain ⟨v, hv, hR, _, hb5⟩ := HW5.out
            obtain ⟨A9, c9, rfl, hle9, hC9⟩ := Kd.R_reads hR
            obtain ⟨k1, k2⟩ := one_cell hv
            have HB5 := Aside0.mk (HB1.out.trans (hb5.mono HB1.out.size))
            have HC9 := Aside0.mk hC9
            clear hv hR hb5 hC9 HW5
            go_wp2_with fail
            refine (sum_Put.calls A9 c9 ys 2 r1 r2 _ HC9.out hle9 (by rw [← HY.out]; exact H.out)).mono ?_
            rintro e w9 ⟨v9, rfl, hR9, hb9⟩
            obtain ⟨A10, c10, rfl⟩ := Kd.R_slice hR9
            have HR9 := Aside0.mk hR9
            have HB9 := Aside0.mk hb9
            clear hR9 hb9
            go_wp2
            go_ret2
            exact ⟨_, rfl, Kd.R_lower HR9.out HB5.out.size, HB5.out.trans (HB9.out.mono HB5.out.size)⟩
        · have h3b : (a0_1 == 3) = false := beq_eq_false_iff_ne.mpr h3
          have HE : Aside0 (encBody a0_0 a0_1 a0_2 a0_3 a0_4 a0_5 a0_6 l0_7 l0_8 = x4) := ⟨by unfold encBody; rw [HX4.out]; simp [bodyC, h3]⟩
          have HW5 := HW4
          clear HW4 h3
          obtain ⟨ys, hys⟩ : ∃ ys, encBody a0_0 a0_1 a0_2 a0_3 a0_4 a0_5 a0_6 l0_7 l0_8 = ys := ⟨_, rfl⟩
          rw [← HE.out, hys] at HW5
          have HY := Aside0.mk hys
          clear hys
          obtain ⟨v, hv, hR, _, hb5⟩ := HW5.out
          obtain ⟨A9, c9, rfl, hle9, hC9⟩ := Kd.R_reads hR
          obtain ⟨k1, k2⟩ := one_cell hv
          have HB5 := Aside0.mk (HB1.out.trans (hb5.mono HB1.out.size))
          have HC9 := Aside0.mk hC9
          clear hv hR hb5 hC9 HW5
          go_wp2_with fail
          refine (sum_Put.calls A9 c9 ys 2 r1 r2 _ HC9.out hle9 (by rw [← HY.out]; exact H.out)).mono ?_
          rintro e w9 ⟨v9, rfl, hR9, hb9⟩
          obtain ⟨A10, c10, rfl⟩ := Kd.R_slice hR9
          have HR9 := Aside0.mk hR9
          have HB9 := Aside0.mk hb9
          clear hR9 hb9
          go_wp2
          go_ret2
          exact ⟨_, rfl, Kd.R_lower HR9.out HB5.out.size, HB5.out.trans (HB9.out.mono HB5.out.size)⟩
    · rw [if_neg hlen] at h
      cases h
  · rw [Bool.not_eq_true] at hbt
    subst hbt
    rw [if_neg (by simp)] at h
    simp only [Option.some.injEq, Prod.mk.injEq] at h
    obtain ⟨rfl, rfl⟩ := h
    go_wp2
    go_ret2
    exact ⟨_, rfl, Kd.R_nil _ _ _ _ _, HB1.out⟩
end Go.Proofs.Ytafmjhmpnlkeiaa.P
