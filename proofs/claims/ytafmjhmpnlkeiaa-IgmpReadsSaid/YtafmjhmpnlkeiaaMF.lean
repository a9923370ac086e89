/- A part of the proof of IgmpReads: whatever the bytes, the law returns true. Merged by a program of this work, without what is not used: GDecG. -/
import Derived.Test.YtafmjhmpnlkeiaaME

namespace Go.Proofs.Ytafmjhmpnlkeiaa.P
open Go.RowKit Go.Proofs.YtafmjhmpnlkeiaaW.PrintWords Go.Proofs.YtafmjhmpnlkeiaaW.PrintLast Go.Proofs.YtafmjhmpnlkeiaaW.PrintMore
set_option linter.unusedVariables false
set_option linter.unusedSimpArgs false
set_option maxHeartbeats 8000000 in
set_option maxRecDepth 100000 in
theorem dec_known (k FN II : Nat) (c0 : Nat) (l0 : List Int) (kd code : Int) (A0 : Option Addr) (w : World) (hr0 : Kd.C (Kd.int .u8) w A0 l0.length l0) (hc0 : l0.length ≤ c0) (h8 : 8 ≤ l0.length) (hln : l0.length ≤ 140737488355328) (hkd : rd l0 0 = kd) (hcode : rd l0 1 = code) (hwh : sum_Whole.f l0 = some true) (hok : okBytes l0 = true) (hfn : FN = 35 ∨ FN = 36 ∨ FN = 37) (hfind : ∀ g, Instr.findNow (.int .u8) (.int .u8 kd) (esOf g).toList 0 = some (some (II, .func (.func FN) #[.pointer (some ⟨g, 0, none⟩)] #[])))
    (hread : ∀ (w0 X : World) (g : Nat) (rest : List Int), okBytes rest = true → 4 ≤ rest.length → rest.length ≤ 140737488355328 → RdI w0 X g rest ⟨kd, 0, code, 0, false, 0, 0⟩ (.slice none 0 0) (.slice none 0 0) false → Calls Try.prog FN #[.pointer (some ⟨g, 0, none⟩)] X (readPost w0 X g kd code rest))
    (r0 r1 r2 r3 : Int) (r4 : Bool) (r5 r6 : Int) (r7 : List Int) (r8 : List S44) (r9 : Int) (h : endM k (readM kd code (l0.drop 4)) = some (r0, r1, r2, r3, r4, r5, r6, r7, r8, r9)) :
    Calls Try.prog 14 #[.slice A0 l0.length c0] w fun e w' => ∃ v0_ v1_ : Value, e = .returned (.tuple #[.agg #[.int .u8 r0, .int .i64 r1, .int .u8 r2, .int .u32 r3, .bool r4, .int .u8 r5, .int .u8 r6, v0_, v1_], .int .i64 r9]) ∧ Kd.R (Kd.int .u32) 23 w' w.heap.size (fun _ => True) v0_ r7 ∧ Kd.S k44 44 w' w.heap.size (fun k_ => some k_ ≠ (v0_ : Value).ownBlock) v1_ r8 ∧ Below w.heap.size w w' := by
  have HFIND := Aside0.mk hfind
  have HFN := Aside0.mk hfn
  clear hfind hfn
  have HH := Aside0.mk h
  have HREAD := Aside0.mk hread
  have HOK := Aside0.mk hok
  clear h hread hok
  have hu27 := Try.underlying27
  have hu44 := Try.underlying44
  have hu63 := Try.underlying63
  have hu64 := Try.underlying64
  have hmm := @run_makeMap Try.prog
  obtain ⟨ad, rfl, p0⟩ := Kd.at_int hr0 0 (by omega) (by omega)
  obtain ⟨_, e1, p1⟩ := Kd.at_int hr0 1 (by omega) (by omega)
  cases e1
  have p0b : w.cell? ad = some (.int .u8 kd) := by rw [← hkd]; simpa [Addr.add] using p0
  have p1b : w.cell? ⟨ad.block, ad.off + 1, none⟩ = some (.int .u8 code) := by rw [← hcode]; simpa [Addr.add] using p1
  have hd : decide ((l0.length : Int) < 8) = false := decide_eq_false (by omega)
  have HR0 := Aside0.mk hr0
  have HC0 := Aside0.mk hc0
  have H8 := Aside0.mk h8
  have HWH := Aside0.mk hwh
  clear hr0 hc0 p0 p1 hwh hkd hcode
  go_enter Try.func14, Try.ntmps14
  go_wp2_with fail
  obtain ⟨w0, hw0⟩ : ∃ w0, w.alloc (.cells #[.int .u8 0, .int .i64 0, .int .u8 0, .int .u32 0, .bool false, .int .u8 0, .int .u8 0, .slice none 0 0, .slice none 0 0] 27) = w0 := ⟨_, rfl⟩
  rw [hw0]
  have HB0 : Aside0 (Below w.heap.size w w0) := ⟨by rw [← hw0]; exact below_alloc (Below.refl _ _) _⟩
  have HN0 : Aside0 (w0.heap[w.heap.size]? = some (.cells #[.int .u8 0, .int .i64 0, .int .u8 0, .int .u32 0, .bool false, .int .u8 0, .int .u8 0, .slice none 0 0, .slice none 0 0] 27 (0, 0))) := ⟨by rw [← hw0]; exact heap_alloc_new w _⟩
  clear hw0
  refine (sum_Whole.calls (some ad) c0 l0 true w0 (Kd.C_below HR0.out HB0.out) HC0.out HWH.out).mono ?_
  rintro e w1 ⟨rfl, hb1⟩
  have HB1 := Aside0.mk hb1
  have HN1 : Aside0 (w1.heap[w.heap.size]? = some (.cells #[.int .u8 0, .int .i64 0, .int .u8 0, .int .u32 0, .bool false, .int .u8 0, .int .u8 0, .slice none 0 0, .slice none 0 0] 27 (0, 0))) := ⟨(hb1.block _ (Array.getElem?_eq_some_iff.1 HN0.out).1).trans HN0.out⟩
  have HBW1 := Aside0.mk (HB0.out.trans (hb1.mono HB0.out.size))
  have q0 := pw_cell_below hb1 (pw_cell_below HB0.out p0b)
  have q1 := pw_cell_below hb1 (pw_cell_below HB0.out p1b)
  have P0 := Aside0.mk (pw_cell_below HB0.out p0b)
  have hc0 := HC0.out
  clear hb1 p0b p1b
  have hne : ¬ c0 = 4 := by omega
  have hi0 : (0 : Int) < (l0.length : Int) := by omega
  have hi1 : (1 : Int) < (l0.length : Int) := by omega
  have hi4 : (4 : Int) ≤ (l0.length : Int) := by omega
  have hj0 : 0 < l0.length := by omega
  have hj1 : 1 < l0.length := by omega
  have hj4 : 4 ≤ l0.length := by omega
  go_wp2_with fail
  go_region_held3 (fun w' => w'.cell? ad = some (.int .u8 kd) ∧ w'.cell? ⟨ad.block, ad.off + 1, none⟩ = some (.int .u8 code)) (go_keep) (fail)
  try simp only [if_neg hne]
  go_wp2_with fail
  have HA0 := Aside0.mk (AtMap.made (o := rdBlock (.slice (some ⟨ad.block, ad.off + 4, none⟩) (l0.length - 4) (c0 - 4)) ⟨kd, 0, code, 0, false, 0, 0⟩ (.slice none 0 0) (.slice none 0 0) false) HB1.out)
  refine upd_step HA0.out rfl ?_
  intro X1 h1
  have HA1 := Aside0.mk h1
  clear h1
  go_wp2_with fail
  refine upd_step HA1.out rfl ?_
  intro X2 h2
  have HA2 := Aside0.mk h2
  clear h2
  go_wp2_with fail
  refine upd_step HA2.out rfl ?_
  intro X3 h3
  have HA3 := Aside0.mk h3
  clear h3
  go_wp2_with fail
  refine upd_step HA3.out rfl ?_
  intro X4 h4
  have HA4 := Aside0.mk h4
  clear h4
  go_wp2_with fail
  refine upd_step HA4.out rfl ?_
  intro X5 h5
  have q0' := pw_cell_below h5.below P0.out
  have HN5 : Aside0 (X5.heap[w.heap.size]? = some (.cells #[.int .u8 0, .int .i64 0, .int .u8 0, .int .u32 0, .bool false, .int .u8 0, .int .u8 0, .slice none 0 0, .slice none 0 0] 27 (0, 0))) := ⟨(h5.below.block _ (Array.getElem?_eq_some_iff.1 HN0.out).1).trans HN0.out⟩
  have HB5 := Aside0.mk (HB0.out.trans (h5.below.mono HB0.out.size))
  have HA5 := Aside0.mk h5
  clear h5 q0 q1
  go_wp2_with fail
  rw [lk_run HA5.out.hb (i := II) (v := .func (.func FN) #[.pointer (some ⟨w1.heap.size, 0, none⟩)] #[]) (HFIND.out w1.heap.size)]
  have hfn3 := HFN.out
  clear HFN HFIND
  rcases hfn3 with rfl | rfl | rfl
  all_goals
    go_wp2_with fail
    have hl4 : (l0.drop 4).length = l0.length - 4 := by simp
    have hR5 : RdI w0 X5 w1.heap.size (l0.drop 4) ⟨kd, 0, code, 0, false, 0, 0⟩ (.slice none 0 0) (.slice none 0 0) false := by
      refine ⟨some ⟨ad.block, ad.off + 4, none⟩, c0 - 4, by rw [hl4]; exact HA5.out.hg, by omega, ?_, HB1.out.size, HA5.out.below⟩
      have h1 := Kd.C_drop (c := c0) (m := 4) (Kd.C_below HR0.out HB0.out) (by omega) HC0.out
      rw [if_neg hne] at h1
      have hs : (Kd.int .u8).sz = 1 := rfl
      simpa [Addr.add, hs] using h1
    have hok4 : okBytes (l0.drop 4) = true := by
      rw [okBytes_iff']
      exact fun x hx => (okBytes_iff' _).1 HOK.out x (List.mem_of_mem_drop hx)
    refine (HREAD.out w0 X5 w1.heap.size (l0.drop 4) hok4 (by omega) (by omega) hR5).mono ?_
    rintro e X6 ⟨rest', m', v7, l7, v8, l8, short', rfl, hR6, hv7, hv8, hrd, hk6⟩
    obtain ⟨mk, mv, mc, mg, mq, mr, me⟩ := m'
    have hg0 : w.heap.size < w1.heap.size := by have := (Array.getElem?_eq_some_iff.1 HN1.out).1; exact this
    have HN6 : Aside0 (X6.heap[w.heap.size]? = some (.cells #[.int .u8 0, .int .i64 0, .int .u8 0, .int .u32 0, .bool false, .int .u8 0, .int .u8 0, .slice none 0 0, .slice none 0 0] 27 (0, 0))) := ⟨(hk6.2 _ (Array.getElem?_eq_some_iff.1 HN5.out).1 (by omega)).trans HN5.out⟩
    have HB6 := Aside0.mk (HB0.out.trans (hR6.w0.mono HB0.out.size))
    have HR6 := Aside0.mk hR6
    have HV7 := Aside0.mk hv7
    have HV8 := Aside0.mk hv8
    have HRD := Aside0.mk hrd
    have HSZ5 := Aside0.mk (HA5.out.below.size)
    have HSZ0 := Aside0.mk (Array.getElem?_eq_some_iff.1 HN0.out).1
    obtain ⟨A7, c7, rfl⟩ := Kd.R_slice hv7
    obtain ⟨A8, c8, rfl⟩ := Kd.S_slice hv8
    obtain ⟨⟨Ab, cb, k0⟩, k1, k2, k3, k4, k5, k6, k7, k8, k9, k10, -⟩ := hR6.cells
    clear hR5 hok4 hR6 hv7 hv8 hrd hk6 q0' hl4 HREAD hg0
    have n0 : X6.cell? ⟨w.heap.size, 0, none⟩ = some (.int .u8 0) := rd_cell HN6.out 0 _ rfl
    have f0 := rd_frozen HN6.out 0
    have n1 : X6.cell? ⟨w.heap.size, 1, none⟩ = some (.int .i64 0) := rd_cell HN6.out 1 _ rfl
    have f1 := rd_frozen HN6.out 1
    have n2 : X6.cell? ⟨w.heap.size, 2, none⟩ = some (.int .u8 0) := rd_cell HN6.out 2 _ rfl
    have f2 := rd_frozen HN6.out 2
    have n3 : X6.cell? ⟨w.heap.size, 3, none⟩ = some (.int .u32 0) := rd_cell HN6.out 3 _ rfl
    have f3 := rd_frozen HN6.out 3
    have n4 : X6.cell? ⟨w.heap.size, 4, none⟩ = some (.bool false) := rd_cell HN6.out 4 _ rfl
    have f4 := rd_frozen HN6.out 4
    have n5 : X6.cell? ⟨w.heap.size, 5, none⟩ = some (.int .u8 0) := rd_cell HN6.out 5 _ rfl
    have f5 := rd_frozen HN6.out 5
    have n6 : X6.cell? ⟨w.heap.size, 6, none⟩ = some (.int .u8 0) := rd_cell HN6.out 6 _ rfl
    have f6 := rd_frozen HN6.out 6
    have n7 : X6.cell? ⟨w.heap.size, 7, none⟩ = some (.slice none 0 0) := rd_cell HN6.out 7 _ rfl
    have f7 := rd_frozen HN6.out 7
    have n8 : X6.cell? ⟨w.heap.size, 8, none⟩ = some (.slice none 0 0) := rd_cell HN6.out 8 _ rfl
    have f8 := rd_frozen HN6.out 8
    cases short' with
    | true =>
      have hh := HH.out
      rcases HRD.out with ⟨_, h1⟩ | ⟨h1, _⟩
      · rw [h1] at hh
        have hh2 : noneM 3 = (r0, r1, r2, r3, r4, r5, r6, r7, r8, r9) := Option.some.inj hh
        simp only [noneM, Prod.mk.injEq] at hh2
        obtain ⟨rfl, rfl, rfl, rfl, rfl, rfl, rfl, rfl, rfl, rfl⟩ := hh2
        clear hh h1 HRD HH
        go_wp2_with fail
        obtain ⟨W8, hW8⟩ : ∃ W8, (((((((((X6.setCell ⟨w.heap.size, 0, none⟩ (.int .u8 0)).setCell ⟨w.heap.size, 1, none⟩ (.int .i64 0)).setCell ⟨w.heap.size, 2, none⟩ (.int .u8 0)).setCell ⟨w.heap.size, 3, none⟩ (.int .u32 0)).setCell ⟨w.heap.size, 4, none⟩ (.bool false)).setCell ⟨w.heap.size, 5, none⟩ (.int .u8 0)).setCell ⟨w.heap.size, 6, none⟩ (.int .u8 0)).setCell ⟨w.heap.size, 7, none⟩ (.slice none 0 0)).setCell ⟨w.heap.size, 8, none⟩ (.slice none 0 0)) = W8 := ⟨_, rfl⟩
        rw [hW8]
        obtain ⟨h8, b8, kp8⟩ := res_nine HN6.out (.int .u8 0) (.int .i64 0) (.int .u8 0) (.int .u32 0) (.bool false) (.int .u8 0) (.int .u8 0) (.slice none 0 0) (.slice none 0 0)
        rw [hW8] at h8 b8 kp8
        clear n0 f0 n1 f1 n2 f2 n3 f3 n4 f4 n5 f5 n6 f6 n7 f7 n8 f8 hW8
        have c0_ : W8.cell? ⟨w.heap.size, 0, none⟩ = some (.int .u8 0) := rd_cell h8 0 _ rfl
        have c1_ : W8.cell? ⟨w.heap.size, 1, none⟩ = some (.int .i64 0) := rd_cell h8 1 _ rfl
        have c2_ : W8.cell? ⟨w.heap.size, 2, none⟩ = some (.int .u8 0) := rd_cell h8 2 _ rfl
        have c3_ : W8.cell? ⟨w.heap.size, 3, none⟩ = some (.int .u32 0) := rd_cell h8 3 _ rfl
        have c4_ : W8.cell? ⟨w.heap.size, 4, none⟩ = some (.bool false) := rd_cell h8 4 _ rfl
        have c5_ : W8.cell? ⟨w.heap.size, 5, none⟩ = some (.int .u8 0) := rd_cell h8 5 _ rfl
        have c6_ : W8.cell? ⟨w.heap.size, 6, none⟩ = some (.int .u8 0) := rd_cell h8 6 _ rfl
        have c7_ : W8.cell? ⟨w.heap.size, 7, none⟩ = some (.slice none 0 0) := rd_cell h8 7 _ rfl
        have c8_ : W8.cell? ⟨w.heap.size, 8, none⟩ = some (.slice none 0 0) := rd_cell h8 8 _ rfl
        refine bodyPost_ret (v := .tuple #[.agg #[.int .u8 0, .int .i64 0, .int .u8 0, .int .u32 0, .bool false, .int .u8 0, .int .u8 0, .slice none 0 0, .slice none 0 0], .int .i64 3]) ?hr ?hd ?hR
        case hd => rfl
        case hR => exact ⟨.slice none 0 0, .slice none 0 0, rfl, Kd.R_nil _ _ _ _ _, Kd.S_nil _ _ _ _ _, HB6.out.trans b8⟩
        case hr =>
          rw [results_cell_tmp rfl]
          go_simp
      · cases h1
    | false =>
      have hh := HH.out
      rcases HRD.out with ⟨h1, _⟩ | ⟨_, h1⟩
      · cases h1
      · rw [h1] at hh
        simp only [endM] at hh
        clear h1 HRD HH
        by_cases hr : rest' = []
        · subst hr
          rw [if_neg (by simp)] at hh
          obtain ⟨b, hb, hh⟩ := Option.bind_eq_some_iff.mp hh
          have HRT := Aside0.mk hb
          clear hb
          cases b with
          | true =>
            simp only [if_true, Option.some.injEq, Prod.mk.injEq] at hh
            obtain ⟨rfl, rfl, rfl, rfl, rfl, rfl, rfl, rfl, rfl, rfl⟩ := hh
            go_wp2_with fail
            refine (igmp_Right.calls k mk mv mc mg mq mr me A7 c7 l7 A8 c8 l8 true X6 (Kd.R_reads' HV7.out).2.2 (Kd.R_reads' HV7.out).2.1 (Kd.S_reads' HV8.out).2.2 (Kd.S_reads' HV8.out).2.1 HRT.out).mono ?_
            rintro e X7 ⟨rfl, hb7⟩
            have HR7 := Aside0.mk (HR6.out.below hb7)
            have HV77 := Aside0.mk (Kd.R_below HV7.out hb7)
            have HV87 := Aside0.mk (Kd.S_below HV8.out hb7)
            have HN7 : Aside0 (X7.heap[w.heap.size]? = some (.cells #[.int .u8 0, .int .i64 0, .int .u8 0, .int .u32 0, .bool false, .int .u8 0, .int .u8 0, .slice none 0 0, .slice none 0 0] 27 (0, 0))) := ⟨(hb7.block _ (Array.getElem?_eq_some_iff.1 HN6.out).1).trans HN6.out⟩
            have HB7 := Aside0.mk (HB6.out.trans (hb7.mono HB6.out.size))
            clear hb7 k0 k1 k2 k3 k4 k5 k6 k7 k8 k9 k10 n0 f0 n1 f1 n2 f2 n3 f3 n4 f4 n5 f5 n6 f6 n7 f7 n8 f8
            obtain ⟨⟨Ab7, cb7, k0⟩, k1, k2, k3, k4, k5, k6, k7, k8, k9, k10, -⟩ := HR7.out.cells
            have n0 : X7.cell? ⟨w.heap.size, 0, none⟩ = some (.int .u8 0) := rd_cell HN7.out 0 _ rfl
            have f0 := rd_frozen HN7.out 0
            have n1 : X7.cell? ⟨w.heap.size, 1, none⟩ = some (.int .i64 0) := rd_cell HN7.out 1 _ rfl
            have f1 := rd_frozen HN7.out 1
            have n2 : X7.cell? ⟨w.heap.size, 2, none⟩ = some (.int .u8 0) := rd_cell HN7.out 2 _ rfl
            have f2 := rd_frozen HN7.out 2
            have n3 : X7.cell? ⟨w.heap.size, 3, none⟩ = some (.int .u32 0) := rd_cell HN7.out 3 _ rfl
            have f3 := rd_frozen HN7.out 3
            have n4 : X7.cell? ⟨w.heap.size, 4, none⟩ = some (.bool false) := rd_cell HN7.out 4 _ rfl
            have f4 := rd_frozen HN7.out 4
            have n5 : X7.cell? ⟨w.heap.size, 5, none⟩ = some (.int .u8 0) := rd_cell HN7.out 5 _ rfl
            have f5 := rd_frozen HN7.out 5
            have n6 : X7.cell? ⟨w.heap.size, 6, none⟩ = some (.int .u8 0) := rd_cell HN7.out 6 _ rfl
            have f6 := rd_frozen HN7.out 6
            have n7 : X7.cell? ⟨w.heap.size, 7, none⟩ = some (.slice none 0 0) := rd_cell HN7.out 7 _ rfl
            have f7 := rd_frozen HN7.out 7
            have n8 : X7.cell? ⟨w.heap.size, 8, none⟩ = some (.slice none 0 0) := rd_cell HN7.out 8 _ rfl
            have f8 := rd_frozen HN7.out 8
            go_wp2_with fail
            obtain ⟨W8, hW8⟩ : ∃ W8, (((((((((X7.setCell ⟨w.heap.size, 0, none⟩ (.int .u8 mk)).setCell ⟨w.heap.size, 1, none⟩ (.int .i64 mv)).setCell ⟨w.heap.size, 2, none⟩ (.int .u8 mc)).setCell ⟨w.heap.size, 3, none⟩ (.int .u32 mg)).setCell ⟨w.heap.size, 4, none⟩ (.bool mq)).setCell ⟨w.heap.size, 5, none⟩ (.int .u8 mr)).setCell ⟨w.heap.size, 6, none⟩ (.int .u8 me)).setCell ⟨w.heap.size, 7, none⟩ (.slice A7 l7.length c7)).setCell ⟨w.heap.size, 8, none⟩ (.slice A8 l8.length c8)) = W8 := ⟨_, rfl⟩
            rw [hW8]
            obtain ⟨h8, b8, kp8⟩ := res_nine HN7.out (.int .u8 mk) (.int .i64 mv) (.int .u8 mc) (.int .u32 mg) (.bool mq) (.int .u8 mr) (.int .u8 me) (.slice A7 l7.length c7) (.slice A8 l8.length c8)
            rw [hW8] at h8 b8 kp8
            clear n0 f0 n1 f1 n2 f2 n3 f3 n4 f4 n5 f5 n6 f6 n7 f7 n8 f8 hW8
            have c0_ : W8.cell? ⟨w.heap.size, 0, none⟩ = some (.int .u8 mk) := rd_cell h8 0 _ rfl
            have c1_ : W8.cell? ⟨w.heap.size, 1, none⟩ = some (.int .i64 mv) := rd_cell h8 1 _ rfl
            have c2_ : W8.cell? ⟨w.heap.size, 2, none⟩ = some (.int .u8 mc) := rd_cell h8 2 _ rfl
            have c3_ : W8.cell? ⟨w.heap.size, 3, none⟩ = some (.int .u32 mg) := rd_cell h8 3 _ rfl
            have c4_ : W8.cell? ⟨w.heap.size, 4, none⟩ = some (.bool mq) := rd_cell h8 4 _ rfl
            have c5_ : W8.cell? ⟨w.heap.size, 5, none⟩ = some (.int .u8 mr) := rd_cell h8 5 _ rfl
            have c6_ : W8.cell? ⟨w.heap.size, 6, none⟩ = some (.int .u8 me) := rd_cell h8 6 _ rfl
            have c7_ : W8.cell? ⟨w.heap.size, 7, none⟩ = some (.slice A7 l7.length c7) := rd_cell h8 7 _ rfl
            have c8_ : W8.cell? ⟨w.heap.size, 8, none⟩ = some (.slice A8 l8.length c8) := rd_cell h8 8 _ rfl
            refine bodyPost_ret (v := .tuple #[.agg #[.int .u8 mk, .int .i64 mv, .int .u8 mc, .int .u32 mg, .bool mq, .int .u8 mr, .int .u8 me, .slice A7 l7.length c7, .slice A8 l8.length c8], .int .i64 0]) ?hr ?hd ?hR
            case hd => rfl
            case hR => exact ⟨_, _, rfl, Kd.R_lower (Kd.R_mono (Kd.R_kept (Kd.R_bound HV77.out) kp8 (fun k hk e => by have h1 := hk.2.1; have h2 := HSZ5.out; have h3 := HSZ0.out; have h4 : k = w.heap.size := e; omega)) (fun _ _ => trivial)) (Nat.le_trans HB0.out.size HSZ5.out), Kd.S_lower (Kd.S_mono (Kd.S_kept (Kd.S_bound HV87.out) kp8 (fun k hk e => by have h1 := hk.2.1; have h2 := HSZ5.out; have h3 := HSZ0.out; have h4 : k = w.heap.size := e; omega)) (fun k hk => hk.1)) (Nat.le_trans HB0.out.size HSZ5.out), HB7.out.trans b8⟩
            case hr =>
              rw [results_cell_tmp rfl]
              go_simp
          | false =>
            have hh2 : noneM 2 = (r0, r1, r2, r3, r4, r5, r6, r7, r8, r9) := Option.some.inj hh
            simp only [noneM, Prod.mk.injEq] at hh2
            obtain ⟨rfl, rfl, rfl, rfl, rfl, rfl, rfl, rfl, rfl, rfl⟩ := hh2
            clear hh
            go_wp2_with fail
            refine (igmp_Right.calls k mk mv mc mg mq mr me A7 c7 l7 A8 c8 l8 false X6 (Kd.R_reads' HV7.out).2.2 (Kd.R_reads' HV7.out).2.1 (Kd.S_reads' HV8.out).2.2 (Kd.S_reads' HV8.out).2.1 HRT.out).mono ?_
            rintro e X7 ⟨rfl, hb7⟩
            have HN7 : Aside0 (X7.heap[w.heap.size]? = some (.cells #[.int .u8 0, .int .i64 0, .int .u8 0, .int .u32 0, .bool false, .int .u8 0, .int .u8 0, .slice none 0 0, .slice none 0 0] 27 (0, 0))) := ⟨(hb7.block _ (Array.getElem?_eq_some_iff.1 HN6.out).1).trans HN6.out⟩
            have HB7 := Aside0.mk (HB6.out.trans (hb7.mono HB6.out.size))
            clear hb7 k0 k1 k2 k3 k4 k5 k6 k7 k8 k9 k10 n0 f0 n1 f1 n2 f2 n3 f3 n4 f4 n5 f5 n6 f6 n7 f7 n8 f8
            have n0 : X7.cell? ⟨w.heap.size, 0, none⟩ = some (.int .u8 0) := rd_cell HN7.out 0 _ rfl
            have f0 := rd_frozen HN7.out 0
            have n1 : X7.cell? ⟨w.heap.size, 1, none⟩ = some (.int .i64 0) := rd_cell HN7.out 1 _ rfl
            have f1 := rd_frozen HN7.out 1
            have n2 : X7.cell? ⟨w.heap.size, 2, none⟩ = some (.int .u8 0) := rd_cell HN7.out 2 _ rfl
            have f2 := rd_frozen HN7.out 2
            have n3 : X7.cell? ⟨w.heap.size, 3, none⟩ = some (.int .u32 0) := rd_cell HN7.out 3 _ rfl
            have f3 := rd_frozen HN7.out 3
            have n4 : X7.cell? ⟨w.heap.size, 4, none⟩ = some (.bool false) := rd_cell HN7.out 4 _ rfl
            have f4 := rd_frozen HN7.out 4
            have n5 : X7.cell? ⟨w.heap.size, 5, none⟩ = some (.int .u8 0) := rd_cell HN7.out 5 _ rfl
            have f5 := rd_frozen HN7.out 5
            have n6 : X7.cell? ⟨w.heap.size, 6, none⟩ = some (.int .u8 0) := rd_cell HN7.out 6 _ rfl
            have f6 := rd_frozen HN7.out 6
            have n7 : X7.cell? ⟨w.heap.size, 7, none⟩ = some (.slice none 0 0) := rd_cell HN7.out 7 _ rfl
            have f7 := rd_frozen HN7.out 7
            have n8 : X7.cell? ⟨w.heap.size, 8, none⟩ = some (.slice none 0 0) := rd_cell HN7.out 8 _ rfl
            have f8 := rd_frozen HN7.out 8
            go_wp2_with fail
            obtain ⟨W8, hW8⟩ : ∃ W8, (((((((((X7.setCell ⟨w.heap.size, 0, none⟩ (.int .u8 0)).setCell ⟨w.heap.size, 1, none⟩ (.int .i64 0)).setCell ⟨w.heap.size, 2, none⟩ (.int .u8 0)).setCell ⟨w.heap.size, 3, none⟩ (.int .u32 0)).setCell ⟨w.heap.size, 4, none⟩ (.bool false)).setCell ⟨w.heap.size, 5, none⟩ (.int .u8 0)).setCell ⟨w.heap.size, 6, none⟩ (.int .u8 0)).setCell ⟨w.heap.size, 7, none⟩ (.slice none 0 0)).setCell ⟨w.heap.size, 8, none⟩ (.slice none 0 0)) = W8 := ⟨_, rfl⟩
            rw [hW8]
            obtain ⟨h8, b8, kp8⟩ := res_nine HN7.out (.int .u8 0) (.int .i64 0) (.int .u8 0) (.int .u32 0) (.bool false) (.int .u8 0) (.int .u8 0) (.slice none 0 0) (.slice none 0 0)
            rw [hW8] at h8 b8 kp8
            clear n0 f0 n1 f1 n2 f2 n3 f3 n4 f4 n5 f5 n6 f6 n7 f7 n8 f8 hW8
            have c0_ : W8.cell? ⟨w.heap.size, 0, none⟩ = some (.int .u8 0) := rd_cell h8 0 _ rfl
            have c1_ : W8.cell? ⟨w.heap.size, 1, none⟩ = some (.int .i64 0) := rd_cell h8 1 _ rfl
            have c2_ : W8.cell? ⟨w.heap.size, 2, none⟩ = some (.int .u8 0) := rd_cell h8 2 _ rfl
            have c3_ : W8.cell? ⟨w.heap.size, 3, none⟩ = some (.int .u32 0) := rd_cell h8 3 _ rfl
            have c4_ : W8.cell? ⟨w.heap.size, 4, none⟩ = some (.bool false) := rd_cell h8 4 _ rfl
            have c5_ : W8.cell? ⟨w.heap.size, 5, none⟩ = some (.int .u8 0) := rd_cell h8 5 _ rfl
            have c6_ : W8.cell? ⟨w.heap.size, 6, none⟩ = some (.int .u8 0) := rd_cell h8 6 _ rfl
            have c7_ : W8.cell? ⟨w.heap.size, 7, none⟩ = some (.slice none 0 0) := rd_cell h8 7 _ rfl
            have c8_ : W8.cell? ⟨w.heap.size, 8, none⟩ = some (.slice none 0 0) := rd_cell h8 8 _ rfl
            refine bodyPost_ret (v := .tuple #[.agg #[.int .u8 0, .int .i64 0, .int .u8 0, .int .u32 0, .bool false, .int .u8 0, .int .u8 0, .slice none 0 0, .slice none 0 0], .int .i64 2]) ?hr ?hd ?hR
            case hd => rfl
            case hR => exact ⟨.slice none 0 0, .slice none 0 0, rfl, Kd.R_nil _ _ _ _ _, Kd.S_nil _ _ _ _ _, HB7.out.trans b8⟩
            case hr =>
              rw [results_cell_tmp rfl]
              go_simp
        · rw [if_pos hr] at hh
          have hh2 : noneM 2 = (r0, r1, r2, r3, r4, r5, r6, r7, r8, r9) := Option.some.inj hh
          simp only [noneM, Prod.mk.injEq] at hh2
          obtain ⟨rfl, rfl, rfl, rfl, rfl, rfl, rfl, rfl, rfl, rfl⟩ := hh2
          have hpos : 0 < rest'.length := List.length_pos_iff.2 hr
          have hpos1 : decide ((0 : Int) < (rest'.length : Int)) = true := decide_eq_true (by omega)
          have hpos2 : decide (0 < rest'.length) = true := decide_eq_true hpos
          clear hh
          go_wp2_with fail
          obtain ⟨W8, hW8⟩ : ∃ W8, (((((((((X6.setCell ⟨w.heap.size, 0, none⟩ (.int .u8 0)).setCell ⟨w.heap.size, 1, none⟩ (.int .i64 0)).setCell ⟨w.heap.size, 2, none⟩ (.int .u8 0)).setCell ⟨w.heap.size, 3, none⟩ (.int .u32 0)).setCell ⟨w.heap.size, 4, none⟩ (.bool false)).setCell ⟨w.heap.size, 5, none⟩ (.int .u8 0)).setCell ⟨w.heap.size, 6, none⟩ (.int .u8 0)).setCell ⟨w.heap.size, 7, none⟩ (.slice none 0 0)).setCell ⟨w.heap.size, 8, none⟩ (.slice none 0 0)) = W8 := ⟨_, rfl⟩
          rw [hW8]
          obtain ⟨h8, b8, kp8⟩ := res_nine HN6.out (.int .u8 0) (.int .i64 0) (.int .u8 0) (.int .u32 0) (.bool false) (.int .u8 0) (.int .u8 0) (.slice none 0 0) (.slice none 0 0)
          rw [hW8] at h8 b8 kp8
          clear n0 f0 n1 f1 n2 f2 n3 f3 n4 f4 n5 f5 n6 f6 n7 f7 n8 f8 hW8
          have c0_ : W8.cell? ⟨w.heap.size, 0, none⟩ = some (.int .u8 0) := rd_cell h8 0 _ rfl
          have c1_ : W8.cell? ⟨w.heap.size, 1, none⟩ = some (.int .i64 0) := rd_cell h8 1 _ rfl
          have c2_ : W8.cell? ⟨w.heap.size, 2, none⟩ = some (.int .u8 0) := rd_cell h8 2 _ rfl
          have c3_ : W8.cell? ⟨w.heap.size, 3, none⟩ = some (.int .u32 0) := rd_cell h8 3 _ rfl
          have c4_ : W8.cell? ⟨w.heap.size, 4, none⟩ = some (.bool false) := rd_cell h8 4 _ rfl
          have c5_ : W8.cell? ⟨w.heap.size, 5, none⟩ = some (.int .u8 0) := rd_cell h8 5 _ rfl
          have c6_ : W8.cell? ⟨w.heap.size, 6, none⟩ = some (.int .u8 0) := rd_cell h8 6 _ rfl
          have c7_ : W8.cell? ⟨w.heap.size, 7, none⟩ = some (.slice none 0 0) := rd_cell h8 7 _ rfl
          have c8_ : W8.cell? ⟨w.heap.size, 8, none⟩ = some (.slice none 0 0) := rd_cell h8 8 _ rfl
          refine bodyPost_ret (v := .tuple #[.agg #[.int .u8 0, .int .i64 0, .int .u8 0, .int .u32 0, .bool false, .int .u8 0, .int .u8 0, .slice none 0 0, .slice none 0 0], .int .i64 2]) ?hr ?hd ?hR
          case hd => rfl
          case hR => exact ⟨.slice none 0 0, .slice none 0 0, rfl, Kd.R_nil _ _ _ _ _, Kd.S_nil _ _ _ _ _, HB6.out.trans b8⟩
          case hr =>
            rw [results_cell_tmp rfl]
            go_simp
end Go.Proofs.Ytafmjhmpnlkeiaa.P
