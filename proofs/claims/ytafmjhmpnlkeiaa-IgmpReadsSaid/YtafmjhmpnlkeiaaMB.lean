/- A part of the proof of IgmpReads: whatever the bytes, the law returns true. Merged by a program of this work, without what is not used: GReader4. -/
import Derived.Test.YtafmjhmpnlkeiaaMA

namespace Go.Proofs.Ytafmjhmpnlkeiaa.P
open Go.RowKit Go.Proofs.YtafmjhmpnlkeiaaW.PrintWords Go.Proofs.YtafmjhmpnlkeiaaW.PrintLast Go.Proofs.YtafmjhmpnlkeiaaW.PrintMore
set_option linter.unusedVariables false
set_option linter.unusedSimpArgs false
section
variable {w0 W : World} {g : Nat} {rest : List Int} {m : Flat} {v7 v8 : Value} {short : Bool}
theorem RdI.ver (h : RdI w0 W g rest m v7 v8 short) (x : Int) : RdI w0 (W.setCell ⟨g, 2, none⟩ (.int .i64 x)) g rest { m with ver := x } v7 v8 short := by
  obtain ⟨A, c, h1, h2, h3, h4, h5⟩ := h
  exact ⟨A, c, rd_set h1 2 _ (by simp), h2, h3, h4, h5.setCell (p := ⟨g, 2, none⟩) h4 _⟩
theorem RdI.group (h : RdI w0 W g rest m v7 v8 short) (x : Int) : RdI w0 (W.setCell ⟨g, 4, none⟩ (.int .u32 x)) g rest { m with group := x } v7 v8 short := by
  obtain ⟨A, c, h1, h2, h3, h4, h5⟩ := h
  exact ⟨A, c, rd_set h1 4 _ (by simp), h2, h3, h4, h5.setCell (p := ⟨g, 4, none⟩) h4 _⟩
theorem RdI.robust (h : RdI w0 W g rest m v7 v8 short) (x : Int) : RdI w0 (W.setCell ⟨g, 6, none⟩ (.int .u8 x)) g rest { m with robust := x } v7 v8 short := by
  obtain ⟨A, c, h1, h2, h3, h4, h5⟩ := h
  exact ⟨A, c, rd_set h1 6 _ (by simp), h2, h3, h4, h5.setCell (p := ⟨g, 6, none⟩) h4 _⟩
theorem RdI.quiet (h : RdI w0 W g rest m v7 v8 short) (x : Bool) : RdI w0 (W.setCell ⟨g, 5, none⟩ (.bool x)) g rest { m with quiet := x } v7 v8 short := by
  obtain ⟨A, c, h1, h2, h3, h4, h5⟩ := h
  exact ⟨A, c, rd_set h1 5 _ (by simp), h2, h3, h4, h5.setCell (p := ⟨g, 5, none⟩) h4 _⟩
theorem RdI.every (h : RdI w0 W g rest m v7 v8 short) (x : Int) : RdI w0 (W.setCell ⟨g, 7, none⟩ (.int .u8 x)) g rest { m with every := x } v7 v8 short := by
  obtain ⟨A, c, h1, h2, h3, h4, h5⟩ := h
  exact ⟨A, c, rd_set h1 7 _ (by simp), h2, h3, h4, h5.setCell (p := ⟨g, 7, none⟩) h4 _⟩
theorem RdI.srcs (h : RdI w0 W g rest m v7 v8 short) (v : Value) : RdI w0 (W.setCell ⟨g, 8, none⟩ v) g rest m v v8 short := by
  obtain ⟨A, c, h1, h2, h3, h4, h5⟩ := h
  exact ⟨A, c, rd_set h1 8 _ (by simp), h2, h3, h4, h5.setCell (p := ⟨g, 8, none⟩) h4 _⟩
theorem RdI.recs (h : RdI w0 W g rest m v7 v8 short) (v : Value) : RdI w0 (W.setCell ⟨g, 9, none⟩ v) g rest m v7 v short := by
  obtain ⟨A, c, h1, h2, h3, h4, h5⟩ := h
  exact ⟨A, c, rd_set h1 9 _ (by simp), h2, h3, h4, h5.setCell (p := ⟨g, 9, none⟩) h4 _⟩
end
theorem kept_setg {w W : World} {g : Nat} (h : Kept w W (fun j => j = g)) (i : Nat) (u : Value) : Kept w (W.setCell ⟨g, i, none⟩ u) (fun j => j = g) := h.setCell (p := ⟨g, i, none⟩) (.inl rfl) u
/-- A query that is read; none: the bytes end too early. -/
def queryP (m : Flat) (rest : List Int) : Option (Flat × List Int × List Int) :=
  if rest.length = 4 then some ({ m with ver := if m.code = 0 then 1 else 2, group := if m.code = 0 then 0 else addrV (rest.take 4) }, [], [])
  else if rest.length < 8 + 4 * (twoV ((rest.drop 6).take 2)).toNat then none
  else some ({ m with ver := 3, group := addrV (rest.take 4), robust := rd rest 4 % 8, quiet := (bits .and .u8 (rd rest 4) 8 != 0), every := rd rest 5 }, addrsV (twoV ((rest.drop 6).take 2)).toNat (rest.drop 8), rest.drop (8 + 4 * (twoV ((rest.drop 6).take 2)).toNat))
def Read {β : Type} (o : Option β) (short : Bool) (r : β) : Prop := (short = true ∧ o = none) ∨ (short = false ∧ o = some r)
theorem twoV_bd {l : List Int} (h : okBytes l = true) (hl : 2 ≤ l.length) : 0 ≤ twoV l ∧ twoV l ≤ 65535 := by
  have b0 : 0 ≤ rd l 0 ∧ rd l 0 ≤ 255 := ok_rd h 0 (by omega)
  have b1 : 0 ≤ rd l 1 ∧ rd l 1 ≤ 255 := ok_rd h 1 (by omega)
  unfold twoV
  omega
theorem rd_take (l : List Int) (i k : Nat) (h : i < k) : rd (l.take k) (i : Int) = rd l (i : Int) := by
  unfold rd
  simp [List.getD_eq_getElem?_getD, List.getElem?_take, h]
theorem rd_drop (l : List Int) (i k : Nat) : rd (l.drop k) (i : Int) = rd l ((k + i : Nat) : Int) := by
  unfold rd
  simp only [Int.toNat_natCast]
  simp [List.getD_eq_getElem?_getD, List.getElem?_drop]
theorem takeV_some {l : List Int} {k : Nat} (h : k ≤ l.length) : takeV l false k = l.take k := by
  unfold takeV
  rw [if_neg (by simp only [Bool.false_eq_true, false_or]; omega)]
theorem takeR_some {l : List Int} {k : Nat} (h : k ≤ l.length) : takeR l false k = l.drop k := by
  unfold takeR
  rw [if_neg (by simp only [Bool.false_eq_true, false_or]; omega)]
theorem query_read {m : Flat} {rest V R l rest' : List Int} {s short' : Bool} {N : Nat} (hl : 4 ≤ rest.length) (hne : ¬ rest.length = 4) (hV : takeV (rest.drop 4) false 2 = V) (hR : takeR (rest.drop 4) false 2 = R) (hs : (false || decide ((rest.drop 4).length < 2)) = s) (hN : twoV (takeV R s 2) = N)
    (hA : AddrsAt N N (takeR R s 2) (s || decide (R.length < 2)) l rest' short') : Read (queryP m rest) short' ({ m with ver := 3, group := addrV (rest.take 4), robust := rd V 0 % 8, quiet := (bits .and .u8 (rd V 0) 8 != 0), every := rd V 1 }, l, rest') := by
  have hd : (rest.drop 4).length = rest.length - 4 := by simp
  unfold Read
  by_cases h8 : rest.length < 8
  · have hsh : (s || decide (R.length < 2)) = true := by
      by_cases h2 : (rest.drop 4).length < 2
      · rw [← hs, decide_eq_true h2]; rfl
      · rw [takeR_some (by omega)] at hR
        have : R.length < 2 := by rw [← hR, List.length_drop, hd]; omega
        rw [decide_eq_true this]; simp
    rcases hA with ⟨h1, _⟩ | ⟨_, h1, _⟩
    · left
      refine ⟨h1, ?_⟩
      unfold queryP
      rw [if_neg hne, if_pos (by omega)]
    · rw [hsh] at h1; cases h1
  · have h2 : ¬ (rest.drop 4).length < 2 := by omega
    rw [decide_eq_false h2] at hs
    obtain rfl : false = s := hs
    rw [takeR_some (by omega), List.drop_drop] at hR
    rw [takeV_some (by omega)] at hV
    subst hR hV
    have h6 : (rest.drop (4 + 2)).length = rest.length - 6 := by simp
    have h6' : ¬ (rest.drop (4 + 2)).length < 2 := by omega
    rw [takeV_some (by omega)] at hN
    rw [takeR_some (by omega), List.drop_drop, decide_eq_false h6'] at hA
    have hNn : (twoV ((rest.drop 6).take 2)).toNat = N := by rw [show (rest.drop 6) = rest.drop (4 + 2) from rfl, hN]; simp
    have h8l : (rest.drop (4 + 2 + 2)).length = rest.length - 8 := by simp
    have e0 : rd ((rest.drop 4).take 2) 0 = rd rest 4 := (rd_take (rest.drop 4) 0 2 (by omega)).trans (rd_drop rest 0 4)
    have e1 : rd ((rest.drop 4).take 2) 1 = rd rest 5 := (rd_take (rest.drop 4) 1 2 (by omega)).trans (rd_drop rest 1 4)
    unfold queryP
    rw [if_neg hne, hNn, e0, e1]
    rcases hA with ⟨h1, h3⟩ | ⟨h1, _, h3, rfl, rfl⟩
    · left
      refine ⟨h1, ?_⟩
      rw [if_pos ?_]
      rcases h3 with h3 | h3
      · cases h3
      · omega
    · right
      refine ⟨h1, ?_⟩
      rw [if_neg (by omega), List.drop_drop]
set_option maxHeartbeats 4000000 in
set_option maxRecDepth 100000 in
theorem query35 (w0 w : World) (g : Nat) (rest : List Int) (m : Flat) (v8 : Value) (hok : okBytes rest = true) (hl : 4 ≤ rest.length) (h : RdI w0 w g rest m (.slice none 0 0) v8 false) :
    Calls Try.prog 35 #[.pointer (some ⟨g, 0, none⟩)] w fun e w' => ∃ rest' m' v7 l7 short', e = .returned (.tuple #[]) ∧ RdI w0 w' g rest' m' v7 v8 short' ∧ Kd.R (Kd.int .u32) 23 w' w.heap.size (fun _ => True) v7 l7 ∧ Read (queryP m rest) short' (m', l7, rest') ∧ Kept w w' (fun j => j = g) := by
  obtain ⟨kind, ver, code, group, quiet, robust, every⟩ := m
  have H := Aside0.mk h
  have HOK := Aside0.mk hok
  obtain ⟨⟨A, c, k0⟩, k1, k2, k3, k4, k5, k6, k7, k8, k9, k10, kf⟩ := h.cells
  have kf2 := kf 2
  have hV4 : takeV rest false 4 = rest.take 4 := by simp [takeV]; intro; omega
  have hR4 : takeR rest false 4 = rest.drop 4 := by simp [takeR]; intro; omega
  have hd4 : (false || decide (rest.length < 4)) = false := by simp; omega
  have HV4 := Aside0.mk hV4
  have HR4 := Aside0.mk hR4
  have HD4 := Aside0.mk hd4
  clear h hok kf hV4 hR4 hd4 k1 k4 k5 k6 k7 k8 k9 k10
  by_cases hc : code = 0
  · subst hc
    have HRW : Aside0 (RdI w0 ((w.setCell ⟨g, 2, none⟩ (.int .i64 2)).setCell ⟨g, 2, none⟩ (.int .i64 1)) g rest ⟨kind, 1, 0, group, quiet, robust, every⟩ (.slice none 0 0) v8 false) := ⟨(H.out.ver 2).ver 1⟩
    have HKW : Aside0 (Kept w ((w.setCell ⟨g, 2, none⟩ (.int .i64 2)).setCell ⟨g, 2, none⟩ (.int .i64 1)) (fun j => j = g)) := ⟨((Kept.refl w (fun j => j = g)).setCell (p := ⟨g, 2, none⟩) (.inl rfl) _).setCell (p := ⟨g, 2, none⟩) (.inl rfl) _⟩
    have HP := Aside0.mk (plain36 w0 ((w.setCell ⟨g, 2, none⟩ (.int .i64 2)).setCell ⟨g, 2, none⟩ (.int .i64 1)) g rest ⟨kind, 1, 0, group, quiet, robust, every⟩ (.slice none 0 0) v8 false HRW.out)
    rw [HV4.out, HR4.out, HD4.out] at HP
    by_cases hlen : rest.length = 4
    · have hlen2 := Aside0.mk hlen
      have hnl : decide ((4 : Int) < (rest.length : Int)) = false := decide_eq_false (by omega)
      have hnl2 : decide (4 < rest.length) = false := decide_eq_false (by omega)
      clear hlen
      go_enter Try.func35, Try.ntmps35
      go_wp2_with fail
      refine HP.out.mono ?_
      rintro e w1 ⟨rfl, hR1, hK1⟩
      have HR1 := Aside0.mk hR1
      have HK1 := Aside0.mk (HKW.out.then_ hK1 (fun _ h => .inl h))
      obtain ⟨-, -, q2, -, q4, -, -, -, -, -, -, qf⟩ := hR1.cells
      have qf4 := qf 4
      clear hR1 hK1 HP HRW HKW k0 k2 k3 kf2 qf
      go_wp2
      refine bodyPost_ret (v := .tuple #[]) (results_none rfl _ _ _) rfl ?_
      refine ⟨_, _, _, [], false, rfl, HR1.out.group 0, Kd.R_nil _ _ _ _ _, .inr ⟨rfl, ?_⟩, HK1.out.setCell (p := ⟨g, 4, none⟩) (.inl rfl) _⟩
      unfold queryP
      rw [if_pos hlen2.out]
      simp only [if_true]
      rw [List.drop_of_length_le (Nat.le_of_eq hlen2.out)]
    · have hlg : decide ((4 : Int) < (rest.length : Int)) = true := decide_eq_true (by omega)
      have hlg2 : decide (4 < rest.length) = true := decide_eq_true (by omega)
      have HLen := Aside0.mk hlen
      have HL4 := Aside0.mk hl
      clear hlen hl
      go_enter Try.func35, Try.ntmps35
      go_wp2_with fail
      refine HP.out.mono ?_
      rintro e w1 ⟨rfl, hR1, hK1⟩
      have HR1 := Aside0.mk (hR1.ver 3)
      have HK1 := Aside0.mk ((HKW.out.then_ hK1 (fun _ h => .inl h)).setCell (p := ⟨g, 2, none⟩) (.inl rfl) (.int .i64 3))
      obtain ⟨-, -, q2, -, -, -, -, -, -, -, -, qf⟩ := hR1.cells
      have qf2 := qf 2
      clear hR1 hK1 HP HRW HKW k0 k2 k3 kf2 qf
      go_wp2_with fail
      have hok4 : okBytes (rest.drop 4) = true := by have := takeR_ok HOK.out false 4; rwa [HR4.out] at this
      have HT := Aside0.mk (take49 w0 (w1.setCell ⟨g, 2, none⟩ (.int .i64 3)) g (rest.drop 4) ⟨kind, 3, 0, addrV (rest.take 4), quiet, robust, every⟩ (.slice none 0 0) v8 false 2 (by omega) (by omega) HR1.out)
      have hVok := takeV_ok hok4 false 2
      have hRok := Aside0.mk (takeR_ok hok4 false 2)
      have hVl := takeV_length (rest.drop 4) false 2
      obtain ⟨V, hV⟩ : ∃ V, takeV (rest.drop 4) false 2 = V := ⟨_, rfl⟩
      obtain ⟨R, hR⟩ : ∃ R, takeR (rest.drop 4) false 2 = R := ⟨_, rfl⟩
      obtain ⟨s, hs⟩ : ∃ s, (false || decide ((rest.drop 4).length < 2)) = s := ⟨_, rfl⟩
      rw [hV, hR, hs] at HT
      rw [hR] at hRok
      rw [hV] at hVl hVok
      have b0 : 0 ≤ rd V 0 ∧ rd V 0 ≤ 255 := ok_rd hVok 0 (by omega)
      have b1 : 0 ≤ rd V 1 ∧ rd V 1 ≤ 255 := ok_rd hVok 1 (by omega)
      have HV := Aside0.mk hV
      have HR := Aside0.mk hR
      have HS := Aside0.mk hs
      have HVL := Aside0.mk hVl
      obtain ⟨b00, b01⟩ := b0
      obtain ⟨b10, b11⟩ := b1
      clear hV hR hs hVl hVok hok4 q2 qf2 HR1
      refine HT.out.mono ?_
      rintro e w2 ⟨A2, c2, rfl, hc2, hC2, hR2, hK2⟩
      have HK2 := Aside0.mk (HK1.out.then_ hK2 (fun _ h => .inl h))
      have HR2 := Aside0.mk hR2
      have hCn := hC2 w2 (Kept.refl _ _)
      obtain ⟨ad, rfl, p0⟩ := Kd.at_int hCn 0 (by omega) (by omega)
      obtain ⟨_, e1, p1⟩ := Kd.at_int hCn 1 (by omega) (by omega)
      cases e1
      have p0b : w2.cell? ad = some (.int .u8 (rd V 0)) := by simpa [Addr.add] using p0
      have p1b : w2.cell? ⟨ad.block, ad.off + 1, none⟩ = some (.int .u8 (rd V 1)) := by simpa [Addr.add] using p1
      have HCK : Aside0 (∀ W', Kept w2 W' (fun j => j = g) → W'.cell? ad = some (.int .u8 (rd V 0)) ∧ W'.cell? ⟨ad.block, ad.off + 1, none⟩ = some (.int .u8 (rd V 1))) := by
        refine ⟨fun W' hW => ?_⟩
        obtain ⟨_, e0, r0⟩ := Kd.at_int (hC2 W' hW) 0 (by omega) (by omega)
        cases e0
        obtain ⟨_, e1, r1⟩ := Kd.at_int (hC2 W' hW) 1 (by omega) (by omega)
        cases e1
        exact ⟨by simpa [Addr.add] using r0, by simpa [Addr.add] using r1⟩
      obtain ⟨-, -, -, -, -, q5, q6, q7, -, -, -, qf⟩ := hR2.cells
      have qf5 := qf 5
      have qf6 := qf 6
      have qf7 := qf 7
      clear p0 p1 hCn hC2 hR2 hK2 HT HK1 qf
      go_wp2_with fail
      go_region_held3 (fun w' => w'.cell? ad = some (.int .u8 (rd V 0)) ∧ w'.cell? ⟨ad.block, ad.off + 1, none⟩ = some (.int .u8 (rd V 1))) ((show _ ∧ _; refine HCK.out _ ?_; repeat (first | exact Kept.refl _ _ | refine Kept.drew ?_ | refine kept_setg ?_ _ _))) (fail)
      go_wp2_with fail
      clear p0b p1b HCK q5 q6 q7 qf5 qf6 qf7
      have hR3 := (((HR2.out.robust (rd V 0 % 8)).quiet (bits .and .u8 (rd V 0) 8 != 0)).every (rd V 1)).below (below_drew (Below.refl _ _))
      have hK3 := (kept_setg (kept_setg (kept_setg HK2.out 6 (.int .u8 (rd V 0 % 8))) 5 (.bool (bits .and .u8 (rd V 0) 8 != 0))) 7 (.int .u8 (rd V 1))).drew
      obtain ⟨w3, hw3⟩ : ∃ w3, (((w2.setCell ⟨g, 6, none⟩ (.int .u8 (rd V 0 % 8))).setCell ⟨g, 5, none⟩ (.bool (bits .and .u8 (rd V 0) 8 != 0))).setCell ⟨g, 7, none⟩ (.int .u8 (rd V 1))).drew = w3 := ⟨_, rfl⟩
      rw [hw3] at hR3 hK3 ⊢
      have HR3 := Aside0.mk hR3
      have HK3 := Aside0.mk hK3
      clear hR3 hK3 hw3 HR2 HK2
      have HT2 := Aside0.mk (two51 w0 w3 g R _ _ v8 s hRok.out HR3.out)
      have hb2 := twoV_bd (takeV_ok hRok.out s 2) (by rw [takeV_length]; omega)
      obtain ⟨N, hN⟩ : ∃ N : Nat, twoV (takeV R s 2) = (N : Int) := ⟨(twoV (takeV R s 2)).toNat, by omega⟩
      rw [hN] at HT2 hb2
      have hNb := hb2.2
      have HN := Aside0.mk hN
      clear hN hb2
      obtain ⟨R2, hR2⟩ : ∃ R2, takeR R s 2 = R2 := ⟨_, rfl⟩
      obtain ⟨s2, hs2⟩ : ∃ s2, (s || decide (R.length < 2)) = s2 := ⟨_, rfl⟩
      rw [hR2, hs2] at HT2
      have HR2e := Aside0.mk hR2
      have HS2 := Aside0.mk hs2
      clear hR2 hs2
      refine HT2.out.mono ?_
      rintro e w4 ⟨rfl, hR4, hK4⟩
      have HR4w := Aside0.mk hR4
      have HK4 := Aside0.mk (HK3.out.then_ hK4 (fun _ h => .inl h))
      clear hR4 hK4 HK3 HR3 HT2
      go_wp2_with fail
      refine (addrs50 w0 w4 g R2 _ _ v8 s2 N (by omega) HR4w.out).mono ?_
      rintro e w5 ⟨v, l, rest', short', rfl, hv, hln, hR5, hA, hK5⟩
      have HR5 := Aside0.mk hR5
      have HV5 := Aside0.mk hv
      have HA := Aside0.mk hA
      have HZ := Aside0.mk HK4.out.1
      have HK5 := Aside0.mk (HK4.out.then_ hK5 (fun _ h => .inl h))
      have hg4 := Aside0.mk HR4w.out.lt
      obtain ⟨-, -, -, -, -, -, -, -, q8, -, -, qf⟩ := hR5.cells
      have qf8 := qf 8
      clear hv hR5 hA hK5 qf HK4 HR4w hln hNb
      obtain ⟨Av, cv, rfl⟩ := Kd.R_slice HV5.out
      go_wp2
      go_end0
      refine ⟨rest', _, _, l, short', rfl, HR5.out.srcs _, ?_, query_read (m := ⟨kind, ver, 0, group, quiet, robust, every⟩) HL4.out HLen.out HV.out HR.out HS.out HN.out (by rw [HR2e.out, HS2.out]; exact HA.out), kept_setg HK5.out _ _⟩
      exact Kd.R_lower (Kd.R_mono (Kd.R_far (p := ⟨g, 8, none⟩) (Kd.R_bound HV5.out) (fun k hk => by have h1 := hk.2.1; have h2 := hg4.out; show k ≠ g; omega) _) (fun _ _ => trivial)) HZ.out
  · have hcb : (code == 0) = false := by simpa using hc
    have HC := Aside0.mk hc
    clear hc
    have HRW : Aside0 (RdI w0 (w.setCell ⟨g, 2, none⟩ (.int .i64 2)) g rest ⟨kind, 2, code, group, quiet, robust, every⟩ (.slice none 0 0) v8 false) := ⟨H.out.ver 2⟩
    have HKW : Aside0 (Kept w (w.setCell ⟨g, 2, none⟩ (.int .i64 2)) (fun j => j = g)) := ⟨(Kept.refl w (fun j => j = g)).setCell (p := ⟨g, 2, none⟩) (.inl rfl) _⟩
    have HP := Aside0.mk (plain36 w0 (w.setCell ⟨g, 2, none⟩ (.int .i64 2)) g rest ⟨kind, 2, code, group, quiet, robust, every⟩ (.slice none 0 0) v8 false HRW.out)
    rw [HV4.out, HR4.out, HD4.out] at HP
    by_cases hlen : rest.length = 4
    · have hlen2 := Aside0.mk hlen
      have hnl : decide ((4 : Int) < (rest.length : Int)) = false := decide_eq_false (by omega)
      have hnl2 : decide (4 < rest.length) = false := decide_eq_false (by omega)
      clear hlen
      go_enter Try.func35, Try.ntmps35
      go_wp2_with fail
      refine HP.out.mono ?_
      rintro e w1 ⟨rfl, hR1, hK1⟩
      have HR1 := Aside0.mk hR1
      have HK1 := Aside0.mk (HKW.out.then_ hK1 (fun _ h => .inl h))
      obtain ⟨-, -, q2, -, q4, -, -, -, -, -, -, qf⟩ := hR1.cells
      have qf4 := qf 4
      clear hR1 hK1 HP HRW HKW k0 k2 k3 kf2 qf
      go_wp2
      refine bodyPost_ret (v := .tuple #[]) (results_none rfl _ _ _) rfl ?_
      refine ⟨_, _, _, [], false, rfl, HR1.out, Kd.R_nil _ _ _ _ _, .inr ⟨rfl, ?_⟩, HK1.out⟩
      unfold queryP
      rw [if_pos hlen2.out]
      simp only [if_neg HC.out]
      rw [List.drop_of_length_le (Nat.le_of_eq hlen2.out)]
    · have hlg : decide ((4 : Int) < (rest.length : Int)) = true := decide_eq_true (by omega)
      have hlg2 : decide (4 < rest.length) = true := decide_eq_true (by omega)
      have HLen := Aside0.mk hlen
      have HL4 := Aside0.mk hl
      clear hlen hl
      go_enter Try.func35, Try.ntmps35
      go_wp2_with fail
      refine HP.out.mono ?_
      rintro e w1 ⟨rfl, hR1, hK1⟩
      have HR1 := Aside0.mk (hR1.ver 3)
      have HK1 := Aside0.mk ((HKW.out.then_ hK1 (fun _ h => .inl h)).setCell (p := ⟨g, 2, none⟩) (.inl rfl) (.int .i64 3))
      obtain ⟨-, -, q2, -, -, -, -, -, -, -, -, qf⟩ := hR1.cells
      have qf2 := qf 2
      clear hR1 hK1 HP HRW HKW k0 k2 k3 kf2 qf
      go_wp2_with fail
      have hok4 : okBytes (rest.drop 4) = true := by have := takeR_ok HOK.out false 4; rwa [HR4.out] at this
      have HT := Aside0.mk (take49 w0 (w1.setCell ⟨g, 2, none⟩ (.int .i64 3)) g (rest.drop 4) ⟨kind, 3, code, addrV (rest.take 4), quiet, robust, every⟩ (.slice none 0 0) v8 false 2 (by omega) (by omega) HR1.out)
      have hVok := takeV_ok hok4 false 2
      have hRok := Aside0.mk (takeR_ok hok4 false 2)
      have hVl := takeV_length (rest.drop 4) false 2
      obtain ⟨V, hV⟩ : ∃ V, takeV (rest.drop 4) false 2 = V := ⟨_, rfl⟩
      obtain ⟨R, hR⟩ : ∃ R, takeR (rest.drop 4) false 2 = R := ⟨_, rfl⟩
      obtain ⟨s, hs⟩ : ∃ s, (false || decide ((rest.drop 4).length < 2)) = s := ⟨_, rfl⟩
      rw [hV, hR, hs] at HT
      rw [hR] at hRok
      rw [hV] at hVl hVok
      have b0 : 0 ≤ rd V 0 ∧ rd V 0 ≤ 255 := ok_rd hVok 0 (by omega)
      have b1 : 0 ≤ rd V 1 ∧ rd V 1 ≤ 255 := ok_rd hVok 1 (by omega)
      have HV := Aside0.mk hV
      have HR := Aside0.mk hR
      have HS := Aside0.mk hs
      have HVL := Aside0.mk hVl
      obtain ⟨b00, b01⟩ := b0
      obtain ⟨b10, b11⟩ := b1
      clear hV hR hs hVl hVok hok4 q2 qf2 HR1
      refine HT.out.mono ?_
      rintro e w2 ⟨A2, c2, rfl, hc2, hC2, hR2, hK2⟩
      have HK2 := Aside0.mk (HK1.out.then_ hK2 (fun _ h => .inl h))
      have HR2 := Aside0.mk hR2
      have hCn := hC2 w2 (Kept.refl _ _)
      obtain ⟨ad, rfl, p0⟩ := Kd.at_int hCn 0 (by omega) (by omega)
      obtain ⟨_, e1, p1⟩ := Kd.at_int hCn 1 (by omega) (by omega)
      cases e1
      have p0b : w2.cell? ad = some (.int .u8 (rd V 0)) := by simpa [Addr.add] using p0
      have p1b : w2.cell? ⟨ad.block, ad.off + 1, none⟩ = some (.int .u8 (rd V 1)) := by simpa [Addr.add] using p1
      have HCK : Aside0 (∀ W', Kept w2 W' (fun j => j = g) → W'.cell? ad = some (.int .u8 (rd V 0)) ∧ W'.cell? ⟨ad.block, ad.off + 1, none⟩ = some (.int .u8 (rd V 1))) := by
        refine ⟨fun W' hW => ?_⟩
        obtain ⟨_, e0, r0⟩ := Kd.at_int (hC2 W' hW) 0 (by omega) (by omega)
        cases e0
        obtain ⟨_, e1, r1⟩ := Kd.at_int (hC2 W' hW) 1 (by omega) (by omega)
        cases e1
        exact ⟨by simpa [Addr.add] using r0, by simpa [Addr.add] using r1⟩
      obtain ⟨-, -, -, -, -, q5, q6, q7, -, -, -, qf⟩ := hR2.cells
      have qf5 := qf 5
      have qf6 := qf 6
      have qf7 := qf 7
      clear p0 p1 hCn hC2 hR2 hK2 HT HK1 qf
      go_wp2_with fail
      go_region_held3 (fun w' => w'.cell? ad = some (.int .u8 (rd V 0)) ∧ w'.cell? ⟨ad.block, ad.off + 1, none⟩ = some (.int .u8 (rd V 1))) ((show _ ∧ _; refine HCK.out _ ?_; repeat (first | exact Kept.refl _ _ | refine Kept.drew ?_ | refine kept_setg ?_ _ _))) (fail)
      go_wp2_with fail
      clear p0b p1b HCK q5 q6 q7 qf5 qf6 qf7
      have hR3 := (((HR2.out.robust (rd V 0 % 8)).quiet (bits .and .u8 (rd V 0) 8 != 0)).every (rd V 1)).below (below_drew (Below.refl _ _))
      have hK3 := (kept_setg (kept_setg (kept_setg HK2.out 6 (.int .u8 (rd V 0 % 8))) 5 (.bool (bits .and .u8 (rd V 0) 8 != 0))) 7 (.int .u8 (rd V 1))).drew
      obtain ⟨w3, hw3⟩ : ∃ w3, (((w2.setCell ⟨g, 6, none⟩ (.int .u8 (rd V 0 % 8))).setCell ⟨g, 5, none⟩ (.bool (bits .and .u8 (rd V 0) 8 != 0))).setCell ⟨g, 7, none⟩ (.int .u8 (rd V 1))).drew = w3 := ⟨_, rfl⟩
      rw [hw3] at hR3 hK3 ⊢
      have HR3 := Aside0.mk hR3
      have HK3 := Aside0.mk hK3
      clear hR3 hK3 hw3 HR2 HK2
      have HT2 := Aside0.mk (two51 w0 w3 g R _ _ v8 s hRok.out HR3.out)
      have hb2 := twoV_bd (takeV_ok hRok.out s 2) (by rw [takeV_length]; omega)
      obtain ⟨N, hN⟩ : ∃ N : Nat, twoV (takeV R s 2) = (N : Int) := ⟨(twoV (takeV R s 2)).toNat, by omega⟩
      rw [hN] at HT2 hb2
      have hNb := hb2.2
      have HN := Aside0.mk hN
      clear hN hb2
      obtain ⟨R2, hR2⟩ : ∃ R2, takeR R s 2 = R2 := ⟨_, rfl⟩
      obtain ⟨s2, hs2⟩ : ∃ s2, (s || decide (R.length < 2)) = s2 := ⟨_, rfl⟩
      rw [hR2, hs2] at HT2
      have HR2e := Aside0.mk hR2
      have HS2 := Aside0.mk hs2
      clear hR2 hs2
      refine HT2.out.mono ?_
      rintro e w4 ⟨rfl, hR4, hK4⟩
      have HR4w := Aside0.mk hR4
      have HK4 := Aside0.mk (HK3.out.then_ hK4 (fun _ h => .inl h))
      clear hR4 hK4 HK3 HR3 HT2
      go_wp2_with fail
      refine (addrs50 w0 w4 g R2 _ _ v8 s2 N (by omega) HR4w.out).mono ?_
      rintro e w5 ⟨v, l, rest', short', rfl, hv, hln, hR5, hA, hK5⟩
      have HR5 := Aside0.mk hR5
      have HV5 := Aside0.mk hv
      have HA := Aside0.mk hA
      have HZ := Aside0.mk HK4.out.1
      have HK5 := Aside0.mk (HK4.out.then_ hK5 (fun _ h => .inl h))
      have hg4 := Aside0.mk HR4w.out.lt
      obtain ⟨-, -, -, -, -, -, -, -, q8, -, -, qf⟩ := hR5.cells
      have qf8 := qf 8
      clear hv hR5 hA hK5 qf HK4 HR4w hln hNb
      obtain ⟨Av, cv, rfl⟩ := Kd.R_slice HV5.out
      go_wp2
      go_end0
      refine ⟨rest', _, _, l, short', rfl, HR5.out.srcs _, ?_, query_read (m := ⟨kind, ver, code, group, quiet, robust, every⟩) HL4.out HLen.out HV.out HR.out HS.out HN.out (by rw [HR2e.out, HS2.out]; exact HA.out), kept_setg HK5.out _ _⟩
      exact Kd.R_lower (Kd.R_mono (Kd.R_far (p := ⟨g, 8, none⟩) (Kd.R_bound HV5.out) (fun k hk => by have h1 := hk.2.1; have h2 := hg4.out; show k ≠ g; omega) _) (fun _ _ => trivial)) HZ.out
end Go.Proofs.Ytafmjhmpnlkeiaa.P
