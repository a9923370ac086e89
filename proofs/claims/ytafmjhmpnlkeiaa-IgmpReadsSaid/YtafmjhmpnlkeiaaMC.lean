/- A part of the proof of IgmpReads: whatever the bytes, the law returns true. Merged by a program of this work, without what is not used: GReader5. -/
import Derived.Test.YtafmjhmpnlkeiaaMB

namespace Go.Proofs.Ytafmjhmpnlkeiaa.P
open Go.RowKit Go.Proofs.YtafmjhmpnlkeiaaW.PrintWords Go.Proofs.YtafmjhmpnlkeiaaW.PrintLast Go.Proofs.YtafmjhmpnlkeiaaW.PrintMore
set_option linter.unusedVariables false
set_option linter.unusedSimpArgs false
/-- So many records. -/
def recsP : Nat → List Int → Option (List S44 × List Int)
  | 0, l => some ([], l)
  | n + 1, l => if l.length < 8 + 4 * (twoV ((l.drop 2).take 2)).toNat then none else (recsP n (l.drop (8 + 4 * (twoV ((l.drop 2).take 2)).toNat))).map fun p => (⟨rd l 0, addrV ((l.drop 4).take 4), addrsV (twoV ((l.drop 2).take 2)).toNat (l.drop 8)⟩ :: p.1, p.2)
/-- After i of n records. -/
def RecsAt (n i : Nat) (rest0 : List Int) (recs : List S44) (rest : List Int) (short : Bool) : Prop :=
  (short = true ∧ recsP n rest0 = none) ∨ (short = false ∧ recsP n rest0 = (recsP (n - i) rest).map fun p => (recs ++ p.1, p.2))
/-- One record that is read. -/
theorem rec_one {rest V R1 R2 R3 l rest' : List Int} {s1 s2 s3 short' : Bool} {N : Nat} (hV : takeV rest false 2 = V) (hR1 : takeR rest false 2 = R1) (hs1 : (false || decide (rest.length < 2)) = s1) (hN : twoV (takeV R1 s1 2) = N) (hR2 : takeR R1 s1 2 = R2) (hs2 : (s1 || decide (R1.length < 2)) = s2)
    (hR3 : takeR R2 s2 4 = R3) (hs3 : (s2 || decide (R2.length < 4)) = s3) (hA : AddrsAt N N R3 s3 l rest' short') (j : Nat) :
    (short' = true ∧ recsP (j + 1) rest = none) ∨ (short' = false ∧ recsP (j + 1) rest = (recsP j rest').map fun p => ((⟨rd V 0, addrV (takeV R2 s2 4), l⟩ : S44) :: p.1, p.2)) := by
  by_cases h8 : rest.length < 8
  · have hsh : s3 = true := by
      by_cases h2 : rest.length < 2
      · rw [decide_eq_true h2] at hs1
        obtain rfl : true = s1 := hs1
        obtain rfl : true = s2 := hs2
        exact hs3.symm
      · rw [decide_eq_false h2] at hs1
        obtain rfl : false = s1 := hs1
        rw [takeR_some (by omega)] at hR1
        have hl1 : R1.length = rest.length - 2 := by rw [← hR1, List.length_drop]
        by_cases h4 : R1.length < 2
        · rw [decide_eq_true h4] at hs2
          obtain rfl : true = s2 := hs2
          exact hs3.symm
        · rw [decide_eq_false h4] at hs2
          obtain rfl : false = s2 := hs2
          rw [takeR_some (by omega)] at hR2
          have hl2 : R2.length = R1.length - 2 := by rw [← hR2, List.length_drop]
          rw [decide_eq_true (show R2.length < 4 by omega)] at hs3
          exact hs3.symm
    subst hsh
    rcases hA with ⟨h1, _⟩ | ⟨_, h1, _⟩
    · left
      refine ⟨h1, ?_⟩
      rw [recsP, if_pos (by omega)]
    · cases h1
  · rw [decide_eq_false (show ¬ rest.length < 2 by omega)] at hs1
    obtain rfl : false = s1 := hs1
    rw [takeR_some (by omega)] at hR1
    have hl1 : R1.length = rest.length - 2 := by rw [← hR1, List.length_drop]
    rw [decide_eq_false (show ¬ R1.length < 2 by omega)] at hs2
    obtain rfl : false = s2 := hs2
    rw [takeR_some (by omega)] at hR2
    have hl2 : R2.length = R1.length - 2 := by rw [← hR2, List.length_drop]
    rw [decide_eq_false (show ¬ R2.length < 4 by omega)] at hs3
    obtain rfl : false = s3 := hs3
    rw [takeR_some (by omega)] at hR3
    have hl3 : R3.length = R2.length - 4 := by rw [← hR3, List.length_drop]
    rw [takeV_some (by omega)] at hN hV ⊢
    have e2 : R2 = rest.drop 4 := by rw [← hR2, ← hR1, List.drop_drop]
    have e3 : R3 = rest.drop 8 := by rw [← hR3, e2, List.drop_drop]
    have hNn : (twoV ((rest.drop 2).take 2)).toNat = N := by rw [hR1, hN]; simp
    have e0 : rd V 0 = rd rest 0 := by rw [← hV]; exact rd_take rest 0 2 (by omega)
    rw [recsP, hNn, e0, e2]
    rcases hA with ⟨h1, h3⟩ | ⟨h1, _, h3, rfl, rfl⟩
    · left
      refine ⟨h1, ?_⟩
      rw [if_pos ?_]
      rcases h3 with h3 | h3
      · cases h3
      · omega
    · right
      refine ⟨h1, ?_⟩
      rw [if_neg (by omega), e3, List.drop_drop]
theorem RecsAt.next {n i : Nat} {rest0 rest rest' : List Int} {recs : List S44} {r : S44} {short' : Bool} (hi : i < n) (h : RecsAt n i rest0 recs rest false)
    (h1 : ∀ j, (short' = true ∧ recsP (j + 1) rest = none) ∨ (short' = false ∧ recsP (j + 1) rest = (recsP j rest').map fun p => (r :: p.1, p.2))) : RecsAt n (i + 1) rest0 (recs ++ [r]) rest' short' := by
  rcases h with ⟨h, _⟩ | ⟨_, h⟩
  · cases h
  · have hj : n - i = (n - (i + 1)) + 1 := by omega
    rw [hj] at h
    rcases h1 (n - (i + 1)) with ⟨h2, h3⟩ | ⟨h2, h3⟩
    · left
      rw [h, h3]
      exact ⟨h2, rfl⟩
    · right
      refine ⟨h2, ?_⟩
      rw [h, h3, Option.map_map]
      congr 1
      funext p
      simp
theorem RecsAt.fin {n i : Nat} {rest0 rest : List Int} {recs : List S44} {short : Bool} (hi : i = n ∨ short = true) (h : RecsAt n i rest0 recs rest short) : Read (recsP n rest0) short (recs, rest) := by
  rcases hi with rfl | rfl
  · rcases h with h | ⟨h1, h2⟩
    · exact .inl h
    · right
      refine ⟨h1, ?_⟩
      rw [h2, Nat.sub_self]
      simp [recsP]
  · rcases h with h | ⟨h, _⟩
    · exact .inl h
    · cases h
/-- A report that is read. -/
def reportP (rest : List Int) : Option (List S44 × List Int) :=
  (recsP (twoV ((rest.drop 2).take 2)).toNat (rest.drop 4)).map fun p => (if twoV (rest.take 2) ≠ 0 then List.replicate 33 z44 else p.1, p.2)
theorem S_keptg {w0 W W' : World} {g : Nat} {v : Value} {xs : List S44} (h : Kd.S k44 44 W w0.heap.size (fun _ => True) v xs) (hg : g < w0.heap.size) (hk : Kept W W' (fun j => j = g)) : Kd.S k44 44 W' w0.heap.size (fun _ => True) v xs :=
  Kd.S_mono (Kd.S_kept (Kd.S_bound h) hk (fun k hk2 e => by have h1 := hk2.2.1; have h2 : k = g := e; omega)) (fun _ _ => trivial)
theorem report_read {rest r : List Int} {N : Nat} {od : Int} {b s : Bool} {recs : List S44} (hN : twoV ((rest.drop 2).take 2) = N) (hod : twoV (rest.take 2) = od) (hb : (od != 0) = b) (h : Read (recsP N (rest.drop 4)) s (recs, r)) : Read (reportP rest) s (if b = true then List.replicate 33 z44 else recs, r) := by
  unfold reportP
  rw [hN, hod, Int.toNat_natCast]
  rcases h with ⟨h1, h2⟩ | ⟨h1, h2⟩
  · left
    rw [h2]
    exact ⟨h1, rfl⟩
  · right
    rw [h2]
    refine ⟨h1, ?_⟩
    subst hb
    by_cases h0 : od = 0 <;> simp [h0]
set_option maxHeartbeats 8000000 in
set_option maxRecDepth 100000 in
theorem report37 (w0 w : World) (g : Nat) (rest : List Int) (m : Flat) (v7 : Value) (hok : okBytes rest = true) (hl : 4 ≤ rest.length) (hln : rest.length ≤ 140737488355328) (h : RdI w0 w g rest m v7 (.slice none 0 0) false) :
    Calls Try.prog 37 #[.pointer (some ⟨g, 0, none⟩)] w fun e w' => ∃ rest' v8 l8 short', e = .returned (.tuple #[]) ∧ RdI w0 w' g rest' m v7 v8 short' ∧ Kd.S k44 44 w' w.heap.size (fun _ => True) v8 l8 ∧ Read (reportP rest) short' (l8, rest') ∧ Kept w w' (fun j => j = g) := by
  have H := Aside0.mk h
  have HT1 := two51 w0 w g rest m v7 (.slice none 0 0) false hok h
  rw [takeV_some (by omega), takeR_some (by omega), decide_eq_false (show ¬ rest.length < 2 by omega)] at HT1
  have hok1 := takeR_ok hok false 2
  rw [takeR_some (by omega)] at hok1
  have hok2 := takeR_ok hok1 false 2
  have hl1 : (rest.drop 2).length = rest.length - 2 := by simp
  rw [takeR_some (by omega), List.drop_drop] at hok2
  have hb2 := twoV_bd (l := (rest.drop 2).take 2) (by have := takeV_ok hok1 false 2; rwa [takeV_some (by omega)] at this) (by simp; omega)
  obtain ⟨N, hN⟩ : ∃ N : Nat, twoV ((rest.drop 2).take 2) = (N : Int) := ⟨(twoV ((rest.drop 2).take 2)).toNat, by omega⟩
  rw [hN] at hb2
  have hNb := hb2.2
  obtain ⟨od, hod⟩ : ∃ od, twoV (rest.take 2) = od := ⟨_, rfl⟩
  rw [hod] at HT1
  obtain ⟨b, hb⟩ : ∃ b, (od != 0) = b := ⟨_, rfl⟩
  have HB := Aside0.mk hb
  have HT1' := Aside0.mk HT1
  have HN := Aside0.mk hN
  have HOD := Aside0.mk hod
  have HOK1 := Aside0.mk hok1
  have HOK2 := Aside0.mk hok2
  have HL1 := Aside0.mk hl1
  have HL := Aside0.mk hl
  clear h hok hok1 hok2 hl1 hN hb2 hod HT1 hl
  go_enter Try.func37, Try.ntmps37
  go_wp2_with fail
  refine HT1'.out.mono ?_
  rintro e w1 ⟨rfl, hR1, hK1⟩
  have HK1 := Aside0.mk hK1
  have HT2 := two51 w0 w1 g _ _ _ _ _ HOK1.out hR1
  rw [Bool.or_false, takeV_some (by rw [HL1.out]; have := HL.out; omega), takeR_some (by rw [HL1.out]; have := HL.out; omega), decide_eq_false (show ¬ (rest.drop 2).length < 2 by rw [HL1.out]; have := HL.out; omega), HN.out, List.drop_drop] at HT2
  have HT2' := Aside0.mk HT2
  clear hR1 hK1 HT2 HT1'
  go_wp2_with fail
  refine HT2'.out.mono ?_
  rintro e w2 ⟨rfl, hR2, hK2⟩
  have HK2 := Aside0.mk (HK1.out.then_ hK2 (fun _ h => .inl h))
  have HR2 := Aside0.mk hR2
  clear hR2 hK2 HT2' HK1 hb
  go_wp2_with fail
  go_loopw [4] (fun vi wr => ∃ (i : Nat) (recs : List S44) (rest' : List Int) (v8 : Value) (short' : Bool), vi = .int .i64 i ∧ i ≤ N ∧ Aside0 (recs.length ≤ i) ∧ Aside0 (short' = false → okBytes rest' = true) ∧ Aside0 (RdI w0 wr g rest' m v7 v8 short') ∧ Aside0 (Kd.S k44 44 wr w.heap.size (fun _ => True) v8 recs) ∧ Aside0 (RecsAt N i (rest.drop 4) recs rest' short') ∧ Aside0 (Kept w wr (fun j => j = g))) (fun vi _ => N - (intOf vi).toNat)
  case atStart => exact ⟨0, [], rest.drop 4, _, false, rfl, by omega, ⟨by simp⟩, ⟨fun _ => HOK2.out⟩, HR2, ⟨Kd.S_nil _ _ _ _ _⟩, ⟨.inr ⟨rfl, by rw [Nat.sub_zero]; cases recsP N (rest.drop 4) <;> rfl⟩⟩, HK2⟩
  case round =>
    clear HR2 HK2
    obtain ⟨i, recs, rest', v8, short', rfl, hi, HRL, HOKr, HD, HS, HA, HK⟩ := hrel
    obtain ⟨-, -, -, -, -, -, -, -, -, -, k10, kf⟩ := HD.out.cells
    by_cases hlt : i < N
    · cases short' with
      | true =>
        cases b with
        | false =>
          go_wp2
          go_end0
          exact ⟨rest', v8, recs, _, rfl, HD.out, HS.out, report_read HN.out HOD.out HB.out (HA.out.fin (.inr rfl)), HK.out⟩
        | true =>
          have k9 := HD.out.cells.2.2.2.2.2.2.2.2.2.1
          have f9 := kf 9
          go_wp2_with (refine Kd.S_make k44 (w0 := wr) (W := wr) w.heap.size 44 rfl rfl 25 (.const (.int .i64 33)) (.const (.int .i64 33)) rfl 33 rfl rfl Try.underlying25 (.agg #[(.int .u8 0), (.int .u32 0), (.slice none 0 0)]) 32 info44 rfl (by decide) (by decide) z44 (ok := fun _ => True) (okp := fun _ => False) (k44_mkM _ _ _ z44 (Kd.R_nil _ _ _ _ _)) (fun _ h => trivial) trivial (by decide) (by decide) (Below.refl _ _) HK.out.1 ?_; intro v9 w5 hS5 hb5 hg5 hat; obtain ⟨A9, c9, rfl⟩ := Kd.S_slice hS5; have t9 : w5.cell? ⟨g, 9, none⟩ = some v8 := (HD.out.below' hb5 H.out.lt H.out.w0.size).cells.2.2.2.2.2.2.2.2.2.1; have g9 := (HD.out.below' hb5 H.out.lt H.out.w0.size).cells.2.2.2.2.2.2.2.2.2.2.2 9; have HD5 := Aside0.mk (HD.out.below' hb5 H.out.lt H.out.w0.size); have HS5 := Aside0.mk hS5; have HB5 := Aside0.mk hb5; clear hS5 hb5 hg5 hat k9 f9)
          go_end0
          exact ⟨rest', _, List.replicate 33 z44, _, rfl, HD5.out.recs _, S_keptg HS5.out H.out.lt (kept_setg (Kept.refl _ _) 9 _), report_read HN.out HOD.out HB.out (HA.out.fin (.inr rfl)), kept_setg (kept_of_below HK.out HB5.out) 9 _⟩
      | false =>
        have HT1 := Aside0.mk (take49x w0 wr g rest' m v7 v8 false 2 (by omega) (by omega) HD.out)
        have hVok := takeV_ok (HOKr.out rfl) false 2
        have hVl := takeV_length rest' false 2
        have HRok1 := Aside0.mk (takeR_ok (HOKr.out rfl) false 2)
        obtain ⟨V, hV⟩ : ∃ V, takeV rest' false 2 = V := ⟨_, rfl⟩
        obtain ⟨R1, hR1⟩ : ∃ R, takeR rest' false 2 = R := ⟨_, rfl⟩
        obtain ⟨s1, hs1⟩ : ∃ s, (false || decide (rest'.length < 2)) = s := ⟨_, rfl⟩
        rw [hV] at hVok hVl
        rw [hR1] at HRok1
        rw [hV, hR1, hs1] at HT1
        have b0 : 0 ≤ rd V 0 ∧ rd V 0 ≤ 255 := ok_rd hVok 0 (by omega)
        obtain ⟨b00, b01⟩ := b0
        have HVL := Aside0.mk hVl
        have HV := Aside0.mk hV
        have HR1 := Aside0.mk hR1
        have HS1 := Aside0.mk hs1
        clear hV hR1 hs1 hVl hVok
        go_wp2_with fail
        refine HT1.out.mono ?_
        rintro e w1 ⟨A, c, rfl, hc, hC, hD1, hK1, hAd⟩
        have HAd := Aside0.mk hAd
        have HLT8 := Aside0.mk (Kd.S_lt HS.out)
        have HBA8 := Aside0.mk (Kd.S_base HS.out)
        have HSZ1 := Aside0.mk hK1.1
        have HSZ0 := Aside0.mk (HK.out.1)
        clear hAd
        have HS1w := Aside0.mk (S_keptg HS.out H.out.lt hK1)
        have HK1 := Aside0.mk (HK.out.then_ hK1 (fun _ h => .inl h))
        have HC := Aside0.mk hC
        have HT2 := Aside0.mk (two51 w0 w1 g R1 m v7 v8 s1 HRok1.out hD1)
        have hb2 := twoV_bd (takeV_ok HRok1.out s1 2) (by rw [takeV_length]; omega)
        obtain ⟨M, hM⟩ : ∃ M : Nat, twoV (takeV R1 s1 2) = (M : Int) := ⟨(twoV (takeV R1 s1 2)).toNat, by omega⟩
        rw [hM] at HT2 hb2
        have hMb := hb2.2
        have HM := Aside0.mk hM
        have HRok2 := Aside0.mk (takeR_ok HRok1.out s1 2)
        obtain ⟨R2, hR2⟩ : ∃ R, takeR R1 s1 2 = R := ⟨_, rfl⟩
        obtain ⟨s2, hs2⟩ : ∃ s, (s1 || decide (R1.length < 2)) = s := ⟨_, rfl⟩
        rw [hR2, hs2] at HT2
        rw [hR2] at HRok2
        have HR2 := Aside0.mk hR2
        have HS2 := Aside0.mk hs2
        clear hM hb2 hR2 hs2 hC hD1 hK1 HT1 HS HK k10 kf
        go_wp2_with fail
        refine HT2.out.mono ?_
        rintro e w2 ⟨rfl, hD2, hK2⟩
        have HS2w := Aside0.mk (S_keptg HS1w.out H.out.lt hK2)
        have HC2 := Aside0.mk (Kd.C_kept_step HC.out hK2)
        have HK2 := Aside0.mk (HK1.out.then_ hK2 (fun _ h => .inl h))
        have HT3 := Aside0.mk (addr52 w0 w2 g R2 m v7 v8 s2 hD2)
        have HRok3 := Aside0.mk (takeR_ok HRok2.out s2 4)
        obtain ⟨ga, hga⟩ : ∃ ga, addrV (takeV R2 s2 4) = ga := ⟨_, rfl⟩
        obtain ⟨R3, hR3⟩ : ∃ R, takeR R2 s2 4 = R := ⟨_, rfl⟩
        obtain ⟨s3, hs3⟩ : ∃ s, (s2 || decide (R2.length < 4)) = s := ⟨_, rfl⟩
        rw [hga, hR3, hs3] at HT3
        rw [hR3] at HRok3
        have HGA := Aside0.mk hga
        have HR3 := Aside0.mk hR3
        have HS3 := Aside0.mk hs3
        clear hga hR3 hs3 hD2 hK2 HT2 HS1w HC HK1
        go_wp2_with fail
        refine HT3.out.mono ?_
        rintro e w3 ⟨rfl, hD3, hK3⟩
        have HS3w := Aside0.mk (S_keptg HS2w.out H.out.lt hK3)
        have HC3 := Aside0.mk (Kd.C_kept_step HC2.out hK3)
        have HK3 := Aside0.mk (HK2.out.then_ hK3 (fun _ h => .inl h))
        have HD3 := Aside0.mk hD3
        have hE50 := addrs50 w0 w3.drew g R3 m v7 v8 s3 M (by omega) (hD3.below (below_drew (Below.refl _ _)))
        have HE50 := Aside0.mk hE50
        have hC3n := HC3.out w3 (Kept.refl _ _)
        obtain ⟨ad, rfl, -⟩ := Kd.at_int hC3n 0 (by omega) (by omega)
        have hne8 : Aside0 (some ad.block ≠ v8.ownBlock) := by
          refine ⟨fun e => ?_⟩
          have h1 := HLT8.out ad.block e.symm
          have h2 := HBA8.out ad.block e.symm
          have h3 := H.out.w0.size
          rcases HAd.out ad rfl with h4 | h4 <;> omega
        have hneg : Aside0 (some g ≠ v8.ownBlock) := by
          refine ⟨fun e => ?_⟩
          have h2 := HBA8.out g e.symm
          have h3 := H.out.lt
          omega
        have hNb2 : Aside0 ((recs.length + 1) * 32 ≤ 140737488355328) := ⟨by have := HRL.out; omega⟩
        have HLT38 := Aside0.mk (Kd.S_lt HS3w.out)
        have HCK : Aside0 (∀ W', Kept w3 W' (fun j => j = g) → W'.cell? ad = some (.int .u8 (rd V 0))) := by
          refine ⟨fun W' hW => ?_⟩
          obtain ⟨_, e0, r0⟩ := Kd.at_int (HC3.out W' hW) 0 (by omega) (by omega)
          cases e0
          simpa [Addr.add] using r0
        have p0 := HCK.out w3 (Kept.refl _ _)
        have p9 : w3.cell? ⟨g, 9, none⟩ = some v8 := hD3.cells.2.2.2.2.2.2.2.2.2.1
        clear hD3 hK3 HT3 HS2w HC2 HK2 HD hE50 hC3n HC3
        go_wp2_with fail
        have hstep : Aside0 (∀ (w4 : World) (v : Value) (l rest2 : List Int) (short2 : Bool), Kd.R (Kd.int .u32) 23 w4 w3.drew.heap.size (fun _ => True) v l → RdI w0 w4 g rest2 m v7 v8 short2 → Kept w3.drew w4 (fun j => j = g) → w.heap.size ≤ w4.heap.size ∧ Kd.S k44 44 w4 w.heap.size (fun k => True ∧ ¬ w3.heap.size ≤ k) v8 recs ∧ (∀ k, w3.heap.size ≤ k → True ∧ some k ≠ v8.ownBlock) ∧ k44.M w4 w.heap.size (fun k => w3.heap.size ≤ k) ⟨rd V 0, ga, l⟩ [.int .u8 (rd V 0), .int .u32 ga, v]) := by
          refine ⟨fun w4 v l rest2 short2 hv hD4 hK4 => ⟨?_, ?_, ?_, ?_⟩⟩
          · have h1 : w3.drew.heap.size ≤ w4.heap.size := hK4.1
            have h2 := HK3.out.1
            exact Nat.le_trans h2 h1
          · have hK4' : Kept w3 w4 (fun j => j = g) := Kept.then_ (Kept.refl w3 _).drew hK4 (fun _ h => .inl h)
            exact Kd.S_mono (Kd.S_kept (Kd.S_bound HS3w.out) hK4' (fun k hk2 e => by have h1 := hk2.2.1; have h2 : k = g := e; have h3 := H.out.lt; omega)) (fun k hk => ⟨trivial, by have := hk.2.2.1; omega⟩)
          · intro k hk
            exact ⟨trivial, fun e => by have := HLT38.out k e.symm; omega⟩
          · exact k44_mkM _ _ _ (⟨rd V 0, ga, l⟩ : S44) (Kd.R_mono (Kd.R_lower (Kd.R_bound hv) (HK3.out.1)) (fun k hk => hk.2.1))
        go_region_law (first | (rw [if_pos (by rfl)]; go_simp; go_at_call 50; refine HE50.out.mono ?_; rintro e w4 ⟨v, l, rest2, short2, rfl, hv, hll, hD4, hA4, hK4⟩; have q9 : w4.cell? ⟨g, 9, none⟩ = some v8 := hD4.cells.2.2.2.2.2.2.2.2.2.1; have q0 := HCK.out w4 (Kept.then_ (Kept.refl w3 _).drew hK4 (fun _ h => .inl h)); obtain ⟨Av, cv, rfl⟩ := Kd.R_slice hv; have qa9 := (World.cell?_alloc_some w4 ⟨g, 9, none⟩ (.cells #[.int .u8 (rd V 0), .int .u32 ga, .slice Av l.length cv] 44) (by rw [q9]; rfl)).trans q9; have HST := Aside0.mk (hstep.out w4 _ l rest2 short2 hv hD4 hK4); have HD4 := Aside0.mk hD4; have HA4 := Aside0.mk hA4; have HK4 := Aside0.mk hK4; clear hv hll hD4 hA4 hK4; try dsimp only) | (have _t := q9; refine Kd.S_append_step k44 (w0 := w4) (W := w4) w.heap.size (by rfl) (.tmp 36) (.tmp 45) 25 44 (.agg #[(.int .u8 0), (.int .u32 0), (.slice none 0 0)]) 32 rfl Try.underlying25 info44 rfl (by decide) (by omega) v8 recs (⟨rd V 0, ga, l⟩ : S44) [.int .u8 (rd V 0), .int .u32 ga, .slice Av l.length cv] (fun _ => True) (fun k => w3.heap.size ≤ k) rfl rfl HST.out.2.2.2 HST.out.2.2.1 (fun _ _ => trivial) HST.out.2.1 (Below.refl _ _) HST.out.1 hNb2.out ?_; intro v9 w5 hS5 hb5 hg5 hat; obtain ⟨A9, c9, rfl⟩ := Kd.S_slice hS5; rw [List.length_append] at hS5; have t9 : w5.cell? ⟨g, 9, none⟩ = some v8 := (HD4.out.below' hb5 H.out.lt H.out.w0.size).cells.2.2.2.2.2.2.2.2.2.1; have f9 := (HD4.out.below' hb5 H.out.lt H.out.w0.size).cells.2.2.2.2.2.2.2.2.2.2.2 9; have HD5 := Aside0.mk (HD4.out.below' hb5 H.out.lt H.out.w0.size); have HS5 := Aside0.mk hS5; have HB5 := Aside0.mk hb5; clear hS5 hb5 hg5 hat))
        all_goals
          clear t9 f9 q9 q0 qa9 p9 p0
          go_wp2
          go_roundw
          case measure => simp [intOf]; omega
          case rel =>
            have hA4 := HA4.out
            refine ⟨i + 1, recs ++ [⟨rd V 0, ga, l⟩], rest2, _, short2, by go_num, by omega, ⟨by rw [List.length_append]; exact Nat.succ_le_succ HRL.out⟩, ⟨fun hs => ?_⟩, ⟨HD5.out.recs _⟩, ⟨S_keptg HS5.out H.out.lt (kept_setg (Kept.refl _ _) 9 _)⟩, ⟨HA.out.next hlt (fun j => by rw [← HGA.out]; exact rec_one HV.out HR1.out HS1.out HM.out HR2.out HS2.out HR3.out HS3.out hA4 j)⟩, ⟨kept_setg (kept_of_below (HK3.out.drew.then_ HK4.out (fun _ h => .inl h)) HB5.out) 9 _⟩⟩
            rcases hA4 with ⟨h1, _⟩ | ⟨_, _, _, _, h5⟩
            · rw [hs] at h1; cases h1
            · rw [h5, okBytes_iff']
              intro y hy
              exact (okBytes_iff' _).1 HRok3.out y (List.mem_of_mem_drop hy)
    · cases b with
      | false =>
        go_wp2
        go_end0
        exact ⟨rest', v8, recs, _, rfl, HD.out, HS.out, report_read HN.out HOD.out HB.out (HA.out.fin (.inl (by omega))), HK.out⟩
      | true =>
        have k9 := HD.out.cells.2.2.2.2.2.2.2.2.2.1
        have f9 := kf 9
        go_wp2_with (refine Kd.S_make k44 (w0 := wr) (W := wr) w.heap.size 44 rfl rfl 25 (.const (.int .i64 33)) (.const (.int .i64 33)) rfl 33 rfl rfl Try.underlying25 (.agg #[(.int .u8 0), (.int .u32 0), (.slice none 0 0)]) 32 info44 rfl (by decide) (by decide) z44 (ok := fun _ => True) (okp := fun _ => False) (k44_mkM _ _ _ z44 (Kd.R_nil _ _ _ _ _)) (fun _ h => trivial) trivial (by decide) (by decide) (Below.refl _ _) HK.out.1 ?_; intro v9 w5 hS5 hb5 hg5 hat; obtain ⟨A9, c9, rfl⟩ := Kd.S_slice hS5; have t9 : w5.cell? ⟨g, 9, none⟩ = some v8 := (HD.out.below' hb5 H.out.lt H.out.w0.size).cells.2.2.2.2.2.2.2.2.2.1; have g9 := (HD.out.below' hb5 H.out.lt H.out.w0.size).cells.2.2.2.2.2.2.2.2.2.2.2 9; have HD5 := Aside0.mk (HD.out.below' hb5 H.out.lt H.out.w0.size); have HS5 := Aside0.mk hS5; have HB5 := Aside0.mk hb5; clear hS5 hb5 hg5 hat k9 f9)
        go_end0
        exact ⟨rest', _, List.replicate 33 z44, _, rfl, HD5.out.recs _, S_keptg HS5.out H.out.lt (kept_setg (Kept.refl _ _) 9 _), report_read HN.out HOD.out HB.out (HA.out.fin (.inl (by omega))), kept_setg (kept_of_below HK.out HB5.out) 9 _⟩
end Go.Proofs.Ytafmjhmpnlkeiaa.P
